/- QuotaValid: for every input the law returns true and leaves its arguments as they were (for inputs of bulk at most 1048576). Conditions: none beyond the given statement. -/
import Derived.Test.YtdkniplokbpolaaGreatDoorRows
import Derived.Test.YtdkniplokbpolaaGreatDoorE
import Derived.Test.YtdkniplokbpolaaGreatDoorP
import Derived.LaidMore
import Derived.Lib.LaidU8
import Derived.LaidHandle
import Derived.Deep.DeepHandedRow
import Derived.Deep.DeepWitnessRowRef
import Derived.WalkKit
import Derived.ProofKit
import Derived.OpenShut
import Derived.ShutString
import Derived.ChangeOld
import Derived.Below
import Derived.SizedLaws
import Derived.JoinedCond
import Derived.Deep.CondSized
import Derived.Test.YtdkniplokbpolaaGreatDoorCards
import Derived.Test.YtdkniplokbpolaaGreatDoorTie
import Derived.SevenTiedAt
namespace Go.Proofs.YtdkniplokbpolaaGreatDoor.quotaValidUpto
open Go.ChangeShapes Go.WideShapes Go.ChangeAt Go.RowKit Go.X D
open Go.ChangeMaps (open_string shut_string)
set_option linter.unusedVariables false
theorem own : ownKnob Tryz.prog.godebug = none := by kernel_rfl
theorem laidOut : laidOutB Tryz.prog = true := by kernel_rfl
def bytesOfElem : List (Nat × TI) → Ty → Nat
  | [], _ => 0
  | p :: l, t => bif decide (p.2.ty = .list t) then p.2.bytes else bytesOfElem l t
abbrev Bo : Ty → Nat := bytesOfElem Acx.tab
theorem eg (s : AE_law20_QuotaValid.S.ty.den) : AE_law20_QuotaValid.g s = law20_QuotaValid s := by kernel_rfl
set_option maxRecDepth 100000 in
theorem walk (w : World) (y0 : List ((List UInt8) × ((Int) × (Int) × Unit) × Unit)) (y1 : List ((Int) × (Int) × (Int) × Unit)) (y2 : (List UInt8) × ((Int) × (Int) × Unit) × Unit) (v0 : Value) (r0 : VR (Go.X.Told w) w (.list (.pair .str (.pair (.pair (.int .i64) (.pair (.int .i64) .unit)) .unit))) y0 v0) (v1 : Value) (r1 : VR (Go.X.Told w) w (.list (.pair (.int .u8) (.pair (.int .u8) (.pair (.int .u8) .unit)))) y1 v1) (v2 : Value) (r2 : VR (Go.X.Told w) w (.pair .str (.pair (.pair (.int .i64) (.pair (.int .i64) .unit)) .unit)) y2 v2) (h : law20_QuotaValid (y0, y1, y2, ()) = some (true, ())) :
    Calls Tryz.prog 4 #[v0, v1, v2] w fun e w' => e = .returned (.bool true) ∧ Below w.heap.size w w' := by
  have g : GOK Tryz.prog 4 [.dat (.list (.pair .str (.pair (.pair (.int .i64) (.pair (.int .i64) .unit)) .unit))) y0, .dat (.list (.pair (.int .u8) (.pair (.int .u8) (.pair (.int .u8) .unit)))) y1, .dat (.pair .str (.pair (.pair (.int .i64) (.pair (.int .i64) .unit)) .unit)) y2] [] (.dat .bool true) [] := law20_QuotaValid_ok [.dat (.list (.pair .str (.pair (.pair (.int .i64) (.pair (.int .i64) .unit)) .unit))) y0, .dat (.list (.pair (.int .u8) (.pair (.int .u8) (.pair (.int .u8) .unit)))) y1, .dat (.pair .str (.pair (.pair (.int .i64) (.pair (.int .i64) .unit)) .unit)) y2] [] (y0, y1, y2, ()) (true, ()) (by kernel_rfl) ((eg (y0, y1, y2, ())).trans h)
  exact true_call g rfl ⟨v0, _, rfl, r0, ⟨v1, _, rfl, r1, ⟨v2, _, rfl, r2, rfl⟩⟩⟩
theorem one_le {H : Type} (d : DataW H) : 1 ≤ Rows.uptoBulk d := by
  cases d with
  | lit l => cases l <;> simp [Rows.uptoBulk]
  | _ => simp [Rows.uptoBulk]
def bk (H : Type) : Bulk H where
  U := Rows.uptoBulk
  A := Rows.uptoBulkAll
  str s := by simp [Rows.uptoBulk]
  slice es sp := by simp only [Rows.uptoBulk]; omega
  agg ps := by simp only [Rows.uptoBulk]; omega
  mem d l h := by
    induction l with
    | nil => cases h
    | cons e l ih =>
      simp only [Rows.uptoBulkAll]
      rcases List.mem_cons.1 h with rfl | h
      · omega
      · have := ih h; omega
  len l := by
    induction l with
    | nil => simp
    | cons e l ih =>
      have := one_le e
      simp only [Rows.uptoBulkAll, List.length_cons]; omega
theorem each {H : Type} {l : List (DataW H)} (hk : Rows.uptoSmall H l = true) : ∀ d ∈ l, Rows.uptoBulk d ≤ 1048576 := fun d hd =>
  Nat.le_trans ((bk H).mem d l hd) (of_decide_eq_true hk)
set_option maxRecDepth 100000 in
/-- The settled world, the two listed tables laid. -/
noncomputable def laidWorld (os : Os) : World :=
  let w0 := World.holding Tryz.prog os ⟨#[], #[], []⟩
  let put (h : Array Obj) (g : Nat) (cs : Array Value) : Array Obj := h.modify g fun
    | .cells _ t frozen => .cells cs t frozen
    | o => o
  let h1 := put w0.heap 1 (Lib.firstTab.map fun z => Value.int .u8 z).toArray
  let h2 := put h1 2 ((List.range 16).flatMap fun i => [Value.int .u8 (Lib.accLo i), Value.int .u8 (Lib.accHi i)]).toArray
  { w0 with heap := h2 }
theorem laid_met (os : Os) (args : Array Value) : laidMetH Tryz.prog Rows.quotaValidUptoRow.laid ((laidWorld os).forCall (fun _ _ => 0) ⟨#[], args, []⟩).memory :=
  laidMetH_of_parts3 (fuel := 8) (laidMet_of_run' 8 (by kernel_rfl) (by kernel_rfl)) (by kernel_rfl) (by kernel_rfl)
theorem witness_row (os : Os) {H : Type} (enc : TypeId × Value → H) :
    (Rows.OpenSpec.upto Rows.quotaValidSpec).preRow enc Tryz.prog Tryz.f4 Rows.quotaValidUptoRow.domain false Rows.quotaValidUptoRow.laid ((laidWorld os).forCall (fun _ _ => 0) ⟨#[], #[.slice none 0 0, .slice none 0 0, .agg #[.string ByteArray.empty, .int .i64 0, .int .i64 0]], []⟩).memory #[.slice none 0 0, .slice none 0 0, .agg #[.string ByteArray.empty, .int .i64 0, .int .i64 0]] := by
  have hw : (DataW.whole enc Tryz.prog ((laidWorld os).forCall (fun _ _ => 0) ⟨#[], #[.slice none 0 0, .slice none 0 0, .agg #[.string ByteArray.empty, .int .i64 0, .int .i64 0]], []⟩).memory Tryz.f4.params.toList (Rows.OpenSpec.upto Rows.quotaValidSpec).vars false (#[.slice none 0 0, .slice none 0 0, .agg #[.string ByteArray.empty, .int .i64 0, .int .i64 0]] : Array Value).toList 8).map (fun x => (x.1, x.2.1)) = some ([.nil, .nil, .agg [.lit (.string []), .agg [.lit (.int .i64 0), .lit (.int .i64 0)]]], []) := by kernel_rfl
  obtain ⟨⟨x1, x2, x3⟩, hx, hx1⟩ := Option.map_eq_some_iff.1 hw
  simp only [Prod.mk.injEq] at hx1
  obtain ⟨rfl, rfl⟩ := hx1
  exact OpenSpec.preRow_of_cond 8 hx (by kernel_rfl) (fun k hk => by
    obtain rfl := (Option.some.inj hk).symm
    kernel_rfl) (by kernel_rfl) (laid_met os _)
set_option maxRecDepth 100000 in
theorem lifted (os : Os) (started : os.Started) (H : Type) (enc : TypeId × Value → H) (F : Stop.Interp) :
    ReturnsInHanded {} Tryz.checked os 4 .any ((Rows.OpenSpec.upto Rows.quotaValidSpec).preRow enc Tryz.prog Tryz.f4 Rows.quotaValidUptoRow.domain false Rows.quotaValidUptoRow.laid) (((Rows.OpenSpec.upto Rows.quotaValidSpec).at F).post enc Tryz.prog Tryz.f4 false true false false) := by
  refine returnsInHanded_of_row (C := Tryz.checked) (s := (Rows.OpenSpec.upto Rows.quotaValidSpec)) own started (by kernel_rfl) Tryz.func4
    (witness_row_atRef (enc := enc) (C := Tryz.checked) false (laidWorld os) #[.slice none 0 0, .slice none 0 0, .agg #[.string ByteArray.empty, .int .i64 0, .int .i64 0]] rfl (by kernel_rfl) (by kernel_rfl) (by kernel_rfl) (witness_row os enc)) ?_
  intro W base args ds gs before hval0 hW hcnd hkk hsz0 _ _ _
  have hk : Rows.uptoSmall H (ds ++ gs) = true := hkk _ rfl
  have hsz : (DataW.weightsEach Tryz.prog (Tryz.f4.params.toList ++ Rows.quotaValidSpec.plain.varTypes Tryz.prog) (ds ++ gs)).all (· ≤ reachBytes) = true := hsz0
  have hval : ∀ (j : Nat) t v, Tryz.f4.params[j]? = some t → args[j]? = some v → Value.okWide Tryz.prog W .any base t v := hval0
  have hW' := hW
  obtain ⟨p, q, hA0, hV, rfl, hfz, hnd⟩ := hW
  have hA : DataW.TrodAll enc Tryz.prog W 0 (fun _ => true) true Tryz.f4.params.toList args.toList ds p := hA0
  rw [Tryz.params4] at hA hval hsz
  obtain ⟨v0, vs0, d0, ds0, p0, q0, hargs, rfl, rfl, h0, r0⟩ := trodAll_cons hA
  obtain ⟨v1, vs1, d1, ds1, p1, q1, rfl, rfl, rfl, h1, r1⟩ := trodAll_cons r0
  obtain ⟨v2, vs2, d2, ds2, p2, q2, rfl, rfl, rfl, h2, r2⟩ := trodAll_cons r1
  obtain ⟨rfl, rfl, rfl⟩ := trodAll_nil r2
  obtain rfl : args = #[v0, v1, v2] := by cases args; simp_all
  obtain ⟨rfl, rfl⟩ := trodVars_none hV
  have k0 := h0
  have lt0 : ∀ x ∈ p0, x.block < W.heap.size := by obtain ⟨m, hm⟩ := k0; exact DataW.trod_lt m _ _ _ hm
  obtain ⟨y0, z0, g0, s0⟩ := read_data (cx := Acx) (B := Bo) Atab (bk H) (M := 1048576) (N := 20) (T := 27) (i := ⟨(.list (.pair .str (.pair (.pair (.int .i64) (.pair (.int .i64) .unit)) .unit))), 45, [], 32, false, false, false, []⟩) (by kernel_rfl) (by kernel_rfl) (fun e => by cases e) (hval 0 27 v0 rfl rfl) h0 (weightsEach_get _ _ 0 27 d0 hsz rfl rfl)
  have k1 := h1
  have lt1 : ∀ x ∈ p1, x.block < W.heap.size := by obtain ⟨m, hm⟩ := k1; exact DataW.trod_lt m _ _ _ hm
  obtain ⟨y1, z1, g1, s1⟩ := read_data (cx := Acx) (B := Bo) Atab (bk H) (M := 1048576) (N := 20) (T := 22) (i := ⟨(.list (.pair (.int .u8) (.pair (.int .u8) (.pair (.int .u8) .unit)))), 51, [], 3, false, false, false, []⟩) (by kernel_rfl) (by kernel_rfl) (fun e => by cases e) (hval 1 22 v1 rfl rfl) h1 (weightsEach_get _ _ 1 22 d1 hsz rfl rfl)
  have k2 := h2
  have lt2 : ∀ x ∈ p2, x.block < W.heap.size := by obtain ⟨m, hm⟩ := k2; exact DataW.trod_lt m _ _ _ hm
  obtain ⟨y2, z2, g2, s2⟩ := read_data (cx := Acx) (B := Bo) Atab (bk H) (M := 1048576) (N := 20) (T := 45) (i := ⟨(.pair .str (.pair (.pair (.int .i64) (.pair (.int .i64) .unit)) .unit)), 0, [9, 32], 32, true, false, false, []⟩) (by kernel_rfl) (by kernel_rfl) (fun e => by cases e) (hval 2 45 v2 rfl rfl) h2 (weightsEach_get _ _ 2 45 d2 hsz rfl rfl)
  refine (walk W y0 y1 y2 v0 z0 v1 z1 v2 z2 (quotaValid_law (B := Bo) (by kernel_rfl) y0 y1 y2 g0 g1 g2 (s0 (each hk d0 (by simp))) (s1 (each hk d1 (by simp))) (s2 (each hk d2 (by simp))))).mono fun e W' ⟨he, bel⟩ => ?_
  subst he
  exact ⟨_, rfl, _, _, _, [], _, [], hW', trodAll_mk1 (shut_bool Tryz.underlying4 _), (trodAll_cons_mk (Below.trod laidOut (by kernel_rfl) (of_decide_eq_true (by kernel_rfl)) k0 bel lt0) (trodAll_cons_mk (Below.trod laidOut (by kernel_rfl) (of_decide_eq_true (by kernel_rfl)) k1 bel lt1) (trodAll_cons_mk (Below.trod laidOut (by kernel_rfl) (of_decide_eq_true (by kernel_rfl)) k2 bel lt2) trodAll_mk0))), rfl, bel.frame _, fun h => by cases h⟩
theorem over : Rows.quotaValidUptoRow.holds Tryz.pinned (Rows.OpenSpec.upto Rows.quotaValidSpec) :=
  OpenClaim.holds_of_cond 4 Tryz.f4 rfl rfl rfl rfl rfl rfl rfl ⟨rfl, rfl, rfl, rfl, rfl⟩ rfl rfl rfl rfl rfl (by kernel_rfl) Tryz.func4 (by kernel_rfl)
    (of_decide_eq_true (by kernel_rfl)) (by unfold Func.isWrapper; first | (rw [if_pos (by decide +kernel)]; kernel_rfl) | (rw [if_neg (by decide +kernel)]; exact ⟨rfl, rfl⟩))
    (fun os started H enc _ F => by rw [OpenClaim.pre_eq_preRow]; exact lifted os started H enc F)
theorem proved : Rows.QuotaValidUptoSaid := over
end Go.Proofs.YtdkniplokbpolaaGreatDoor.quotaValidUpto
namespace Go.Proofs.YtdkniplokbpolaaGreatDoor
/-- The row, under a short name, for the claim. -/
theorem quotaValidUpto_holds : Rows.QuotaValidUptoSaid := quotaValidUpto.proved
end Go.Proofs.YtdkniplokbpolaaGreatDoor
#print axioms Go.Proofs.YtdkniplokbpolaaGreatDoor.quotaValidUpto_holds
/- QuotaValidUpto: the tied card over the row. Conditions: none beyond the given statement. -/
namespace Go.Proofs.YtdkniplokbpolaaGreatDoor.quotaValidUpto
open Go
theorem card : Claim7.holds Tryz.pinned (.plain (Rows.OpenSpec.upto Rows.quotaValidSpec)) Rows.quotaValidUptoCard :=
  Claim7.holds_tied_plain_at .later [] [.data, .pinned] true (true, "b382cf9c3a450327042a6a4dc3117eea1b4fde0956e335050ec5bcdbfeeca2c8") false
    proved (fun _ h => by cases h) (by kernel_rfl) (fun _ h => by cases h) quotaValidUpto_row_tie rfl ⟨rfl, rfl⟩ (by kernel_rfl) rfl
    (fun f fn hf hfn => by
      obtain rfl : f = 4 := Option.some.inj ((show Tryz.prog.funcNamed "downspout/downspoutlaw20.QuotaValid" = some 4 by kernel_rfl).symm.trans hf) |>.symm
      obtain rfl : fn = Tryz.f4 := (Option.some.inj (Tryz.func4.symm.trans hfn)).symm
      exact ⟨by kernel_rfl, fun j t ht => by
        rw [Tryz.params4] at ht
        have hm : t ∈ [27, 22, 45] := by simpa using Array.mem_of_getElem? ht
        have hall : ([27, 22, 45].all fun u => !Tryz.prog.wantsStandIn u) = true := by kernel_rfl
        exact (show Tryz.prog.wantsStandIn t = false by simpa using List.all_eq_true.1 hall t hm)⟩)
    (by kernel_rfl)
end Go.Proofs.YtdkniplokbpolaaGreatDoor.quotaValidUpto
namespace Go.Proofs.YtdkniplokbpolaaGreatDoor
/-- The card, under a short name, for the claim. -/
theorem quotaValidUptoCard_holds : Rows.QuotaValidUptoCardSaid := quotaValidUpto.card
end Go.Proofs.YtdkniplokbpolaaGreatDoor
#print axioms Go.Proofs.YtdkniplokbpolaaGreatDoor.quotaValidUptoCard_holds
