/- SplitLeaves: for every input the law returns true and leaves its arguments as they were. Conditions: none beyond the given statement. -/
import Derived.Test.YtknndobfgfmjeaaRows
import Derived.Test.YtknndobfgfmjeaaE
import Derived.Test.YtknndobfgfmjeaaP
import Derived.WalkKit
import Derived.ProofKit
import Derived.OpenShut
import Derived.ShutString
import Derived.ChangeOld
import Derived.Below
import Derived.SizedLaws
namespace Go.Proofs.Ytknndobfgfmjeaa.splitLeaves
open Go.ChangeShapes Go.WideShapes Go.ChangeAt Go.RowKit Go.X D
open Go.ChangeMaps (open_string shut_string)
set_option linter.unusedVariables false
theorem own : ownKnob Try.prog.godebug = none := by kernel_rfl
theorem laidOut : laidOutB Try.prog = true := by kernel_rfl
def bytesOfElem : List (Nat × TI) → Ty → Nat
  | [], _ => 0
  | p :: l, t => bif decide (p.2.ty = .list t) then p.2.bytes else bytesOfElem l t
abbrev Bo : Ty → Nat := bytesOfElem Acx.tab
set_option maxRecDepth 100000 in
theorem walk (w : World) (y0 : List ((Int) × (Int) × (Int) × Unit)) (y1 : (Int) × (Int) × (Int) × Unit) (v0 : Value) (r0 : VR (Go.X.Told w) w (.list (.pair (.int .u8) (.pair (.int .u8) (.pair (.int .u8) .unit)))) y0 v0) (v1 : Value) (r1 : VR (Go.X.Told w) w (.pair (.int .u8) (.pair (.int .u8) (.pair (.int .u8) .unit))) y1 v1) (h : law13_SplitLeaves (y0, y1, ()) = some (true, ())) :
    Calls Try.prog 4 #[v0, v1] w fun e w' => e = .returned (.bool true) ∧ Below w.heap.size w w' := by
  have g : GOK Try.prog 4 [.dat (.list (.pair (.int .u8) (.pair (.int .u8) (.pair (.int .u8) .unit)))) y0, .dat (.pair (.int .u8) (.pair (.int .u8) (.pair (.int .u8) .unit))) y1] [] (.dat .bool true) [] := law13_SplitLeaves_ok [.dat (.list (.pair (.int .u8) (.pair (.int .u8) (.pair (.int .u8) .unit)))) y0, .dat (.pair (.int .u8) (.pair (.int .u8) (.pair (.int .u8) .unit))) y1] [] (y0, y1, ()) (true, ()) (by kernel_rfl) h
  exact true_call g rfl ⟨v0, _, rfl, r0, ⟨v1, _, rfl, r1, rfl⟩⟩
set_option maxRecDepth 100000 in
theorem lifted (os : Os) (started : os.Started) (H : Type) (enc : TypeId × Value → H) :
    ReturnsInHanded {} Try.checked os 4 .any (Rows.splitLeavesSpec.pre6 enc Try.prog Try.f4 Rows.splitLeavesRow.domain false) (Rows.splitLeavesSpec.post enc Try.prog Try.f4 false true false false) := by
  refine returnsInHanded_of_change_sized (C := Try.checked) own started (by kernel_rfl) Try.func4
    (ChangeSpec.witness6 (enc := enc) (C := Try.checked) false ⟨#[], #[.slice none 0 0, .agg #[.int .u8 0, .int .u8 0, .int .u8 0]], []⟩ 8 (by kernel_rfl) (by kernel_rfl) (by kernel_rfl) (by kernel_rfl)) ?_
  intro W base args ds gs before hval0 hW hcnd hsz0 _
  have hsz : (DataW.weightsEach Try.prog (Try.f4.params.toList ++ Rows.splitLeavesSpec.plain.varTypes Try.prog) (ds ++ gs)).all (· ≤ reachBytes) = true := hsz0
  have hval : ∀ (j : Nat) t v, Try.f4.params[j]? = some t → args[j]? = some v → Value.okWide Try.prog W .any base t v := hval0
  have hW' := hW
  obtain ⟨p, q, hA0, hV, rfl, hfz, hnd⟩ := hW
  have hA : DataW.TrodAll enc Try.prog W 0 (fun _ => true) true Try.f4.params.toList args.toList ds p := hA0
  rw [Try.params4] at hA hval hsz
  obtain ⟨v0, vs0, d0, ds0, p0, q0, hargs, rfl, rfl, h0, r0⟩ := trodAll_cons hA
  obtain ⟨v1, vs1, d1, ds1, p1, q1, rfl, rfl, rfl, h1, r1⟩ := trodAll_cons r0
  obtain ⟨rfl, rfl, rfl⟩ := trodAll_nil r1
  obtain rfl : args = #[v0, v1] := by cases args; simp_all
  obtain ⟨rfl, rfl⟩ := trodVars_none hV
  have k0 := h0
  have lt0 : ∀ x ∈ p0, x.block < W.heap.size := by obtain ⟨m, hm⟩ := k0; exact DataW.trod_lt m _ _ _ hm
  obtain ⟨y0, z0, g0⟩ := read_data (cx := Acx) (B := Bo) Atab (N := 20) (T := 22) (i := ⟨(.list (.pair (.int .u8) (.pair (.int .u8) (.pair (.int .u8) .unit)))), 63, [], 3, false, false⟩) (by kernel_rfl) (by kernel_rfl) (fun e => by cases e) (hval 0 22 v0 rfl rfl) h0 (weightsEach_get _ _ 0 22 d0 hsz rfl rfl)
  have k1 := h1
  have lt1 : ∀ x ∈ p1, x.block < W.heap.size := by obtain ⟨m, hm⟩ := k1; exact DataW.trod_lt m _ _ _ hm
  obtain ⟨y1, z1, g1⟩ := read_data (cx := Acx) (B := Bo) Atab (N := 20) (T := 30) (i := ⟨(.pair (.int .u8) (.pair (.int .u8) (.pair (.int .u8) .unit))), 0, [5, 5, 5], 3, false, true⟩) (by kernel_rfl) (by kernel_rfl) (fun e => by cases e) (hval 1 30 v1 rfl rfl) h1 (weightsEach_get _ _ 1 30 d1 hsz rfl rfl)
  refine (walk W y0 y1 v0 z0 v1 z1 ((splitLeaves_law (B := Bo) (by kernel_rfl)) y0 y1 g0 g1)).mono fun e W' ⟨he, bel⟩ => ?_
  subst he
  exact ⟨_, rfl, _, _, _, [], _, [], hW', trodAll_mk1 (shut_bool Try.underlying4 _), (trodAll_cons_mk (Below.trod laidOut (by kernel_rfl) (of_decide_eq_true (by kernel_rfl)) k0 bel lt0) (trodAll_cons_mk (Below.trod laidOut (by kernel_rfl) (of_decide_eq_true (by kernel_rfl)) k1 bel lt1) trodAll_mk0)), rfl, bel.frame _, fun h => by cases h⟩
theorem over : Rows.splitLeavesRow.holds Try.pinned (OpenSpec.ofChange Rows.splitLeavesSpec) :=
  OpenClaim.holds_of_wide 4 Try.f4 rfl rfl rfl rfl rfl rfl rfl ⟨rfl, rfl, rfl, rfl, rfl⟩ rfl rfl rfl rfl rfl (by kernel_rfl) Try.func4 (by kernel_rfl)
    (of_decide_eq_true (by kernel_rfl)) (by unfold Func.isWrapper; first | (rw [if_pos (by decide +kernel)]; kernel_rfl) | (rw [if_neg (by decide +kernel)]; exact ⟨rfl, rfl⟩))
    (fun os started H enc _ => lifted os started H enc)
theorem proved : Rows.SplitLeavesSaid := over
end Go.Proofs.Ytknndobfgfmjeaa.splitLeaves
namespace Go.Proofs.Ytknndobfgfmjeaa
/-- The row, under a short name, for the claim. -/
theorem splitLeaves_holds : Rows.SplitLeavesSaid := splitLeaves.proved
end Go.Proofs.Ytknndobfgfmjeaa
#print axioms Go.Proofs.Ytknndobfgfmjeaa.splitLeaves_holds
