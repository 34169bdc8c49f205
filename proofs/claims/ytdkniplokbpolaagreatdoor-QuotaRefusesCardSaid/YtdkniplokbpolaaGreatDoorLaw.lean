/- QuotaRefuses: for every input the law returns true and leaves its arguments as they were. Conditions: none beyond the given statement. -/
import Derived.Test.YtdkniplokbpolaaGreatDoorRows
import Derived.Test.YtdkniplokbpolaaGreatDoorE
import Derived.Test.YtdkniplokbpolaaGreatDoorP
import Derived.LaidMore
import Derived.Lib.LaidU8
import Derived.LaidHandle
import Derived.WalkKit
import Derived.ProofKit
import Derived.OpenShut
import Derived.ShutString
import Derived.ChangeOld
import Derived.Below
import Derived.SizedLaws
import Derived.Test.YtdkniplokbpolaaGreatDoorCards
import Derived.Test.YtdkniplokbpolaaGreatDoorTie
import Derived.SevenTiedAt
namespace Go.Proofs.YtdkniplokbpolaaGreatDoor.quotaRefuses
open Go.ChangeShapes Go.WideShapes Go.ChangeAt Go.RowKit Go.X D
open Go.ChangeMaps (open_string shut_string)
set_option linter.unusedVariables false
theorem own : ownKnob Tryz.prog.godebug = none := by kernel_rfl
theorem laidOut : laidOutB Tryz.prog = true := by kernel_rfl
def bytesOfElem : List (Nat × TI) → Ty → Nat
  | [], _ => 0
  | p :: l, t => bif decide (p.2.ty = .list t) then p.2.bytes else bytesOfElem l t
abbrev Bo : Ty → Nat := bytesOfElem Acx.tab
theorem eg (s : AE_law20_QuotaRefuses.S.ty.den) : AE_law20_QuotaRefuses.g s = law20_QuotaRefuses s := by kernel_rfl
set_option maxRecDepth 100000 in
theorem walk (w : World) (y0 : Int) (y1 : Int) (v0 : Value) (r0 : VR (Go.X.Told w) w (.int .i32) y0 v0) (v1 : Value) (r1 : VR (Go.X.Told w) w (.int .u8) y1 v1) (h : law20_QuotaRefuses (y0, y1, ()) = some (true, ())) :
    Calls Tryz.prog 10 #[v0, v1] w fun e w' => e = .returned (.bool true) ∧ Below w.heap.size w w' := by
  have g : GOK Tryz.prog 10 [.dat (.int .i32) y0, .dat (.int .u8) y1] [] (.dat .bool true) [] := law20_QuotaRefuses_ok [.dat (.int .i32) y0, .dat (.int .u8) y1] [] (y0, y1, ()) (true, ()) (by kernel_rfl) ((eg (y0, y1, ())).trans h)
  exact true_call g rfl ⟨v0, _, rfl, r0, ⟨v1, _, rfl, r1, rfl⟩⟩
set_option maxRecDepth 100000 in
/-- The settled world, the two listed tables laid. -/
noncomputable def laidWorld (os : Os) : World :=
  let w0 := World.holding Tryz.prog os ⟨#[], #[], []⟩
  let put (h : Array Obj) (g : Nat) (cs : Array Value) : Array Obj := h.modify g fun
    | .cells _ t frozen => .cells cs t frozen
    | o => o
  let h1 := put w0.heap 1 (Lib.firstTab.map fun z => Value.int .u8 z).toArray
  let h2 := put h1 2 ((List.range 16).flatMap fun i => [Value.int .u8 (Lib.accLo i), Value.int .u8 (Lib.accHi i)]).toArray
  { w0 with heap := h2 }
theorem laid_met (os : Os) (args : Array Value) : laidMetH Tryz.prog Rows.quotaRefusesRow.laid ((laidWorld os).forCall (fun _ _ => 0) ⟨#[], args, []⟩).memory :=
  laidMetH_of_parts3 (fuel := 8) (laidMet_of_run' 8 (by kernel_rfl) (by kernel_rfl)) (by kernel_rfl) (by kernel_rfl)
set_option maxRecDepth 100000 in
theorem lifted (os : Os) (started : os.Started) (H : Type) (enc : TypeId × Value → H) :
    ReturnsInHanded {} Tryz.checked os 10 .any (fun w args => (Rows.quotaRefusesSpec.pre enc Tryz.prog Tryz.f10 [] false w args ∧ laidMetH Tryz.prog Rows.quotaRefusesRow.laid w) ∧ sizedMet enc Tryz.prog Tryz.f10 (OpenSpec.ofChange Rows.quotaRefusesSpec) false w args) (Rows.quotaRefusesSpec.post enc Tryz.prog Tryz.f10 false true false false) := by
  refine returnsInHanded_of_change_and (C := Tryz.checked) (X := fun w _ => laidMetH Tryz.prog Rows.quotaRefusesRow.laid w) (fun _ _ _ hh h => h.of_heap hh) own started (by kernel_rfl) Tryz.func10
    (ChangeSpec.witness_shaped (enc := enc) (C := Tryz.checked) (os := os) (X := fun w _ => laidMetH Tryz.prog Rows.quotaRefusesRow.laid w) false (laidWorld os) #[.int .i32 0, .int .u8 0] 8 rfl (World.shaped_of_RefB (by kernel_rfl) (by kernel_rfl)) (by kernel_rfl) (by kernel_rfl) (by kernel_rfl) (laid_met os _)) ?_
  intro W base args ds gs before hval0 hW hcnd hsz0 _ _
  have hsz : (DataW.weightsEach Tryz.prog (Tryz.f10.params.toList ++ Rows.quotaRefusesSpec.plain.varTypes Tryz.prog) (ds ++ gs)).all (· ≤ reachBytes) = true := hsz0
  have hval : ∀ (j : Nat) t v, Tryz.f10.params[j]? = some t → args[j]? = some v → Value.okWide Tryz.prog W .any base t v := hval0
  have hW' := hW
  obtain ⟨p, q, hA0, hV, rfl, hfz, hnd⟩ := hW
  have hA : DataW.TrodAll enc Tryz.prog W 0 (fun _ => true) true Tryz.f10.params.toList args.toList ds p := hA0
  rw [Tryz.params10] at hA hval hsz
  obtain ⟨v0, vs0, d0, ds0, p0, q0, hargs, rfl, rfl, h0, r0⟩ := trodAll_cons hA
  obtain ⟨v1, vs1, d1, ds1, p1, q1, rfl, rfl, rfl, h1, r1⟩ := trodAll_cons r0
  obtain ⟨rfl, rfl, rfl⟩ := trodAll_nil r1
  obtain rfl : args = #[v0, v1] := by cases args; simp_all
  obtain ⟨rfl, rfl⟩ := trodVars_none hV
  have k0 := h0
  have lt0 : ∀ x ∈ p0, x.block < W.heap.size := by obtain ⟨m, hm⟩ := k0; exact DataW.trod_lt m _ _ _ hm
  obtain ⟨y0, z0, g0, s0⟩ := read_data (cx := Acx) (B := Bo) Atab (anyBulk H) (M := 0) (N := 20) (T := 21) (i := ⟨(.int .i32), 0, [], 4, false, false, false, []⟩) (by kernel_rfl) (by kernel_rfl) (fun e => by cases e) (hval 0 21 v0 rfl rfl) h0 (weightsEach_get _ _ 0 21 d0 hsz rfl rfl)
  have k1 := h1
  have lt1 : ∀ x ∈ p1, x.block < W.heap.size := by obtain ⟨m, hm⟩ := k1; exact DataW.trod_lt m _ _ _ hm
  obtain ⟨y1, z1, g1, s1⟩ := read_data (cx := Acx) (B := Bo) Atab (anyBulk H) (M := 0) (N := 20) (T := 5) (i := ⟨(.int .u8), 0, [], 1, false, false, false, []⟩) (by kernel_rfl) (by kernel_rfl) (fun e => by cases e) (hval 1 5 v1 rfl rfl) h1 (weightsEach_get _ _ 1 5 d1 hsz rfl rfl)
  refine (walk W y0 y1 v0 z0 v1 z1 (quotaRefuses_law (B := Bo) y0 y1 g0 g1)).mono fun e W' ⟨he, bel⟩ => ?_
  subst he
  exact ⟨_, rfl, _, _, _, [], _, [], hW', trodAll_mk1 (shut_bool Tryz.underlying4 _), (trodAll_cons_mk (Below.trod laidOut (by kernel_rfl) (of_decide_eq_true (by kernel_rfl)) k0 bel lt0) (trodAll_cons_mk (Below.trod laidOut (by kernel_rfl) (of_decide_eq_true (by kernel_rfl)) k1 bel lt1) trodAll_mk0)), rfl, bel.frame _, fun h => by cases h⟩
theorem over : Rows.quotaRefusesRow.holds Tryz.pinned (OpenSpec.ofChange Rows.quotaRefusesSpec) :=
  OpenClaim.holds_of_wide 10 Tryz.f10 rfl rfl rfl rfl rfl rfl rfl ⟨rfl, rfl, rfl, rfl, rfl⟩ rfl rfl rfl rfl rfl (by kernel_rfl) Tryz.func10 (by kernel_rfl)
    (of_decide_eq_true (by kernel_rfl)) (by unfold Func.isWrapper; first | (rw [if_pos (by decide +kernel)]; kernel_rfl) | (rw [if_neg (by decide +kernel)]; exact ⟨rfl, rfl⟩))
    (fun os started H enc _ => lifted os started H enc)
theorem proved : Rows.QuotaRefusesSaid := over
end Go.Proofs.YtdkniplokbpolaaGreatDoor.quotaRefuses
namespace Go.Proofs.YtdkniplokbpolaaGreatDoor
/-- The row, under a short name, for the claim. -/
theorem quotaRefuses_holds : Rows.QuotaRefusesSaid := quotaRefuses.proved
end Go.Proofs.YtdkniplokbpolaaGreatDoor
#print axioms Go.Proofs.YtdkniplokbpolaaGreatDoor.quotaRefuses_holds
/- QuotaRefuses: the tied card over the row. Conditions: none beyond the given statement. -/
namespace Go.Proofs.YtdkniplokbpolaaGreatDoor.quotaRefuses
open Go
theorem card : Claim7.holds Tryz.pinned (.plain (OpenSpec.ofChange Rows.quotaRefusesSpec)) Rows.quotaRefusesCard :=
  Claim7.holds_tied_plain_at .later [] [.data, .pinned] true (true, "b382cf9c3a450327042a6a4dc3117eea1b4fde0956e335050ec5bcdbfeeca2c8") false
    proved (fun _ h => by cases h) (by kernel_rfl) (fun _ h => by cases h) quotaRefuses_row_tie rfl ⟨rfl, rfl⟩ (by kernel_rfl) rfl
    (fun f fn hf hfn => by
      obtain rfl : f = 10 := Option.some.inj ((show Tryz.prog.funcNamed "downspout/downspoutlaw20.QuotaRefuses" = some 10 by kernel_rfl).symm.trans hf) |>.symm
      obtain rfl : fn = Tryz.f10 := (Option.some.inj (Tryz.func10.symm.trans hfn)).symm
      exact ⟨by kernel_rfl, fun j t ht => by
        rw [Tryz.params10] at ht
        have hm : t ∈ [21, 5] := by simpa using Array.mem_of_getElem? ht
        have hall : ([21, 5].all fun u => !Tryz.prog.wantsStandIn u) = true := by kernel_rfl
        exact (show Tryz.prog.wantsStandIn t = false by simpa using List.all_eq_true.1 hall t hm)⟩)
    (by kernel_rfl)
end Go.Proofs.YtdkniplokbpolaaGreatDoor.quotaRefuses
namespace Go.Proofs.YtdkniplokbpolaaGreatDoor
/-- The card, under a short name, for the claim. -/
theorem quotaRefusesCard_holds : Rows.QuotaRefusesCardSaid := quotaRefuses.card
end Go.Proofs.YtdkniplokbpolaaGreatDoor
#print axioms Go.Proofs.YtdkniplokbpolaaGreatDoor.quotaRefusesCard_holds
