/- SplitKids: for every input the law returns true and leaves its arguments as they were (for inputs of bulk at most 1048576). Conditions: none beyond the given statement. -/
import Derived.Test.YtknndobfgfmjeaaRows
import Derived.Test.YtknndobfgfmjeaaE
import Derived.Test.YtknndobfgfmjeaaP
import Derived.WalkKit
import Derived.ProofKit
import Derived.OpenShut
import Derived.ShutString
import Derived.ChangeOld
import Derived.Below
import Derived.SizedLaws
import Derived.JoinedCond
import Derived.Deep.CondSized
namespace Go.Proofs.Ytknndobfgfmjeaa.splitKidsUpto
open Go.ChangeShapes Go.WideShapes Go.ChangeAt Go.RowKit Go.X D
open Go.ChangeMaps (open_string shut_string)
set_option linter.unusedVariables false
theorem own : ownKnob Try.prog.godebug = none := by kernel_rfl
theorem laidOut : laidOutB Try.prog = true := by kernel_rfl
def bytesOfElem : List (Nat × TI) → Ty → Nat
  | [], _ => 0
  | p :: l, t => bif decide (p.2.ty = .list t) then p.2.bytes else bytesOfElem l t
abbrev Bo : Ty → Nat := bytesOfElem Acx.tab
set_option maxRecDepth 100000 in
theorem walk (w : World) (y0 : (List ((Int) × (Int) × (Int) × Unit)) × (List (Int)) × (List (Int)) × (List ((Int) × (Int) × (Int) × (Int) × Unit)) × (List ((Int) × (Int) × (Int) × (Int) × (Int) × (Int) × Unit)) × Unit) (y1 : (Int) × (Int) × (Int) × Unit) (v0 : Value) (r0 : VR (Go.X.Told w) w (.pair (.list (.pair (.int .u8) (.pair (.int .u8) (.pair (.int .u8) .unit)))) (.pair (.list (.int .u8)) (.pair (.list (.int .u8)) (.pair (.list (.pair (.int .u8) (.pair (.int .u8) (.pair (.int .u8) (.pair (.int .u8) .unit))))) (.pair (.list (.pair (.int .u8) (.pair (.int .u8) (.pair (.int .u8) (.pair (.int .u8) (.pair (.int .u8) (.pair (.int .u8) .unit))))))) .unit))))) y0 v0) (v1 : Value) (r1 : VR (Go.X.Told w) w (.pair (.int .u8) (.pair (.int .u8) (.pair (.int .u8) .unit))) y1 v1) (h : law13_SplitKids (y0, y1, ()) = some (true, ())) :
    Calls Try.prog 5 #[v0, v1] w fun e w' => e = .returned (.bool true) ∧ Below w.heap.size w w' := by
  have g : GOK Try.prog 5 [.dat (.pair (.list (.pair (.int .u8) (.pair (.int .u8) (.pair (.int .u8) .unit)))) (.pair (.list (.int .u8)) (.pair (.list (.int .u8)) (.pair (.list (.pair (.int .u8) (.pair (.int .u8) (.pair (.int .u8) (.pair (.int .u8) .unit))))) (.pair (.list (.pair (.int .u8) (.pair (.int .u8) (.pair (.int .u8) (.pair (.int .u8) (.pair (.int .u8) (.pair (.int .u8) .unit))))))) .unit))))) y0, .dat (.pair (.int .u8) (.pair (.int .u8) (.pair (.int .u8) .unit))) y1] [] (.dat .bool true) [] := law13_SplitKids_ok [.dat (.pair (.list (.pair (.int .u8) (.pair (.int .u8) (.pair (.int .u8) .unit)))) (.pair (.list (.int .u8)) (.pair (.list (.int .u8)) (.pair (.list (.pair (.int .u8) (.pair (.int .u8) (.pair (.int .u8) (.pair (.int .u8) .unit))))) (.pair (.list (.pair (.int .u8) (.pair (.int .u8) (.pair (.int .u8) (.pair (.int .u8) (.pair (.int .u8) (.pair (.int .u8) .unit))))))) .unit))))) y0, .dat (.pair (.int .u8) (.pair (.int .u8) (.pair (.int .u8) .unit))) y1] [] (y0, y1, ()) (true, ()) (by kernel_rfl) h
  exact true_call g rfl ⟨v0, _, rfl, r0, ⟨v1, _, rfl, r1, rfl⟩⟩
theorem one_le {H : Type} (d : DataW H) : 1 ≤ Rows.uptoBulk d := by
  cases d with
  | lit l => cases l <;> simp [Rows.uptoBulk]
  | _ => simp [Rows.uptoBulk]
def bk (H : Type) : Bulk H where
  U := Rows.uptoBulk
  A := Rows.uptoBulkAll
  str s := by simp [Rows.uptoBulk]
  slice es sp := by simp only [Rows.uptoBulk]; omega
  agg ps := by simp only [Rows.uptoBulk]; omega
  mem d l h := by
    induction l with
    | nil => cases h
    | cons e l ih =>
      simp only [Rows.uptoBulkAll]
      rcases List.mem_cons.1 h with rfl | h
      · omega
      · have := ih h; omega
  len l := by
    induction l with
    | nil => simp
    | cons e l ih =>
      have := one_le e
      simp only [Rows.uptoBulkAll, List.length_cons]; omega
theorem each {H : Type} {l : List (DataW H)} (hk : Rows.uptoSmall H l = true) : ∀ d ∈ l, Rows.uptoBulk d ≤ 1048576 := fun d hd =>
  Nat.le_trans ((bk H).mem d l hd) (of_decide_eq_true hk)
set_option maxRecDepth 100000 in
theorem lifted (os : Os) (started : os.Started) (H : Type) (enc : TypeId × Value → H) (F : Stop.Interp) :
    ReturnsInHanded {} Try.checked os 5 .any ((Rows.OpenSpec.upto Rows.splitKidsSpec).pre6 enc Try.prog Try.f5 Rows.splitKidsUptoRow.domain false) (((Rows.OpenSpec.upto Rows.splitKidsSpec).at F).post enc Try.prog Try.f5 false true false false) := by
  refine returnsInHanded_of_cond_sized (C := Try.checked) (s := Rows.OpenSpec.upto Rows.splitKidsSpec) (k := Rows.uptoSmall) rfl own started (by kernel_rfl) Try.func5
    (OpenSpec.witness (enc := enc) (C := Try.checked) (s := Rows.OpenSpec.upto Rows.splitKidsSpec) (k := Rows.uptoSmall) rfl false ⟨#[], #[.agg #[.slice none 0 0, .slice none 0 0, .slice none 0 0, .slice none 0 0, .slice none 0 0], .agg #[.int .u8 0, .int .u8 0, .int .u8 0]], []⟩ 8 (by kernel_rfl) (by kernel_rfl) (by kernel_rfl)
      (x := ([.agg [.nil, .nil, .nil, .nil, .nil], .agg [.lit (.int .u8 0), .lit (.int .u8 0), .lit (.int .u8 0)]], [], [])) (by kernel_rfl) rfl (by kernel_rfl)) ?_
  intro W base args ds gs before hval0 hW hcnd hk hsz0 _
  have hsz : (DataW.weightsEach Try.prog (Try.f5.params.toList ++ Rows.splitKidsSpec.plain.varTypes Try.prog) (ds ++ gs)).all (· ≤ reachBytes) = true := hsz0
  have hval : ∀ (j : Nat) t v, Try.f5.params[j]? = some t → args[j]? = some v → Value.okWide Try.prog W .any base t v := hval0
  have hW' := hW
  obtain ⟨p, q, hA0, hV, rfl, hfz, hnd⟩ := hW
  have hA : DataW.TrodAll enc Try.prog W 0 (fun _ => true) true Try.f5.params.toList args.toList ds p := hA0
  rw [Try.params5] at hA hval hsz
  obtain ⟨v0, vs0, d0, ds0, p0, q0, hargs, rfl, rfl, h0, r0⟩ := trodAll_cons hA
  obtain ⟨v1, vs1, d1, ds1, p1, q1, rfl, rfl, rfl, h1, r1⟩ := trodAll_cons r0
  obtain ⟨rfl, rfl, rfl⟩ := trodAll_nil r1
  obtain rfl : args = #[v0, v1] := by cases args; simp_all
  obtain ⟨rfl, rfl⟩ := trodVars_none hV
  have k0 := h0
  have lt0 : ∀ x ∈ p0, x.block < W.heap.size := by obtain ⟨m, hm⟩ := k0; exact DataW.trod_lt m _ _ _ hm
  obtain ⟨y0, z0, g0, s0⟩ := read_data (cx := Acx) (B := Bo) Atab (bk H) (M := 1048576) (N := 20) (T := 51) (i := ⟨(.pair (.list (.pair (.int .u8) (.pair (.int .u8) (.pair (.int .u8) .unit)))) (.pair (.list (.int .u8)) (.pair (.list (.int .u8)) (.pair (.list (.pair (.int .u8) (.pair (.int .u8) (.pair (.int .u8) (.pair (.int .u8) .unit))))) (.pair (.list (.pair (.int .u8) (.pair (.int .u8) (.pair (.int .u8) (.pair (.int .u8) (.pair (.int .u8) (.pair (.int .u8) .unit))))))) .unit))))), 0, [22, 47, 47, 48, 49], 120, false, false⟩) (by kernel_rfl) (by kernel_rfl) (fun e => by cases e) (hval 0 51 v0 rfl rfl) h0 (weightsEach_get _ _ 0 51 d0 hsz rfl rfl)
  have k1 := h1
  have lt1 : ∀ x ∈ p1, x.block < W.heap.size := by obtain ⟨m, hm⟩ := k1; exact DataW.trod_lt m _ _ _ hm
  obtain ⟨y1, z1, g1, s1⟩ := read_data (cx := Acx) (B := Bo) Atab (bk H) (M := 1048576) (N := 20) (T := 30) (i := ⟨(.pair (.int .u8) (.pair (.int .u8) (.pair (.int .u8) .unit))), 0, [5, 5, 5], 3, false, true⟩) (by kernel_rfl) (by kernel_rfl) (fun e => by cases e) (hval 1 30 v1 rfl rfl) h1 (weightsEach_get _ _ 1 30 d1 hsz rfl rfl)
  refine (walk W y0 y1 v0 z0 v1 z1 ((splitKids_law (B := Bo) trivial) y0 y1 g0 g1 (s0 (each hk d0 (by simp))) (s1 (each hk d1 (by simp))))).mono fun e W' ⟨he, bel⟩ => ?_
  subst he
  exact ⟨_, rfl, _, _, _, [], _, [], hW', trodAll_mk1 (shut_bool Try.underlying4 _), (trodAll_cons_mk (Below.trod laidOut (by kernel_rfl) (of_decide_eq_true (by kernel_rfl)) k0 bel lt0) (trodAll_cons_mk (Below.trod laidOut (by kernel_rfl) (of_decide_eq_true (by kernel_rfl)) k1 bel lt1) trodAll_mk0)), rfl, bel.frame _, fun h => by cases h⟩
theorem over : Rows.splitKidsUptoRow.holds Try.pinned (Rows.OpenSpec.upto Rows.splitKidsSpec) :=
  OpenClaim.holds_of_cond 5 Try.f5 rfl rfl rfl rfl rfl rfl rfl ⟨rfl, rfl, rfl, rfl, rfl⟩ rfl rfl rfl rfl rfl (by kernel_rfl) Try.func5 (by kernel_rfl)
    (of_decide_eq_true (by kernel_rfl)) (by unfold Func.isWrapper; first | (rw [if_pos (by decide +kernel)]; kernel_rfl) | (rw [if_neg (by decide +kernel)]; exact ⟨rfl, rfl⟩))
    (fun os started H enc _ F => lifted os started H enc F)
theorem proved : Rows.SplitKidsUptoSaid := over
end Go.Proofs.Ytknndobfgfmjeaa.splitKidsUpto
namespace Go.Proofs.Ytknndobfgfmjeaa
/-- The row, under a short name, for the claim. -/
theorem splitKidsUpto_holds : Rows.SplitKidsUptoSaid := splitKidsUpto.proved
end Go.Proofs.Ytknndobfgfmjeaa
#print axioms Go.Proofs.Ytknndobfgfmjeaa.splitKidsUpto_holds
