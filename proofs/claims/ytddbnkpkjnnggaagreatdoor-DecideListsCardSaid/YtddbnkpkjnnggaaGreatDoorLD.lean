/- DecideLists: for every input the law returns true and leaves its arguments as they were. Conditions: none beyond the given statement. -/
import Derived.Test.YtddbnkpkjnnggaaGreatDoorRows
import Derived.Test.YtddbnkpkjnnggaaGreatDoorLC
import Derived.Test.YtddbnkpkjnnggaaGreatDoorE
import Derived.Test.YtddbnkpkjnnggaaGreatDoorP
import Derived.LaidMore
import Derived.Lib.LaidU8
import Derived.LaidHandle
import Derived.Stop.Joined
import Derived.WalkKit
import Derived.ProofKit
import Derived.OpenShut
import Derived.ShutString
import Derived.ChangeOld
import Derived.Below
import Derived.SizedLaws
namespace Go.Proofs.YtddbnkpkjnnggaaGreatDoor.decideLists
open Go.ChangeShapes Go.WideShapes Go.ChangeAt Go.RowKit Go.X D
open Go.ChangeMaps (open_string shut_string)
set_option linter.unusedVariables false
theorem own : ownKnob Tryz.prog.godebug = none := by kernel_rfl
theorem laidOut : laidOutB Tryz.prog = true := by kernel_rfl
def bytesOfElem : List (Nat × TI) → Ty → Nat
  | [], _ => 0
  | p :: l, t => bif decide (p.2.ty = .list t) then p.2.bytes else bytesOfElem l t
abbrev Bo : Ty → Nat := bytesOfElem Acx.tab
theorem eg (s : AE_law22_DecideLists.S.ty.den) : AE_law22_DecideLists.g s = law22_DecideLists s := by kernel_rfl
set_option maxRecDepth 100000 in
theorem walk (w : World) (y0 : List ((Int) × (Int) × (Int) × (Int) × Unit)) (y1 : (Int) × (Int) × (Int) × (Int) × Unit) (v0 : Value) (r0 : VR (Go.X.Told w) w (.list (.pair (.int .u8) (.pair (.int .u8) (.pair (.int .u8) (.pair (.int .u8) .unit))))) y0 v0) (v1 : Value) (r1 : VR (Go.X.Told w) w (.pair (.int .u8) (.pair (.int .u8) (.pair (.int .u8) (.pair (.int .u8) .unit)))) y1 v1) (h : law22_DecideLists (y0, y1, ()) = some (true, ())) :
    Calls Tryz.prog 7 #[v0, v1] w fun e w' => e = .returned (.bool true) ∧ Below w.heap.size w w' := by
  have g : GOK Tryz.prog 7 [.dat (.list (.pair (.int .u8) (.pair (.int .u8) (.pair (.int .u8) (.pair (.int .u8) .unit))))) y0, .dat (.pair (.int .u8) (.pair (.int .u8) (.pair (.int .u8) (.pair (.int .u8) .unit)))) y1] [] (.dat .bool true) [] := law22_DecideLists_ok [.dat (.list (.pair (.int .u8) (.pair (.int .u8) (.pair (.int .u8) (.pair (.int .u8) .unit))))) y0, .dat (.pair (.int .u8) (.pair (.int .u8) (.pair (.int .u8) (.pair (.int .u8) .unit)))) y1] [] (y0, y1, ()) (true, ()) (by kernel_rfl) ((eg (y0, y1, ())).trans h)
  exact true_call (fun g i v h => by have h : (([] : List (Option Nat)).map fval)[i]? = some v := h; simp at h) g rfl ⟨v0, _, rfl, r0, ⟨v1, _, rfl, r1, rfl⟩⟩
set_option maxRecDepth 100000 in
noncomputable def laidWorld (os : Os) : World :=
  let w0 := World.holding Tryz.prog os ⟨#[], #[], []⟩
  let put (h : Array Obj) (g : Nat) (cs : Array Value) : Array Obj := h.modify g fun
    | .cells _ t frozen => .cells cs t frozen
    | o => o
  let h1 := put w0.heap 1 (Lib.firstTab.map fun z => Value.int .u8 z).toArray
  let h2 := put h1 2 ((List.range 16).flatMap fun i => [Value.int .u8 (Lib.accLo i), Value.int .u8 (Lib.accHi i)]).toArray
  { w0 with heap := h2 }
theorem laid_met (os : Os) (args : Array Value) : laidMetH Tryz.prog Rows.decideListsRow.laid ((laidWorld os).forCall (fun _ _ => 0) ⟨#[], args, []⟩).memory :=
  laidMetH_of_parts3 (fuel := 8) (laidMet_of_run' 8 (by kernel_rfl) (by kernel_rfl)) (by kernel_rfl) (by kernel_rfl)
set_option maxRecDepth 100000 in
theorem lifted (os : Os) (started : os.Started) (H : Type) (enc : TypeId × Value → H) :
    ReturnsInHanded {} Tryz.checked os 7 .any (fun w args => (Rows.decideListsSpec.pre enc Tryz.prog Tryz.f7 [] false w args ∧ laidMetH Tryz.prog Rows.decideListsRow.laid w) ∧ sizedMet enc Tryz.prog Tryz.f7 (OpenSpec.ofChange Rows.decideListsSpec) false w args) (Rows.decideListsSpec.post enc Tryz.prog Tryz.f7 false true false false) := by
  refine returnsInHanded_of_change_and (C := Tryz.checked) (X := fun w _ => laidMetH Tryz.prog Rows.decideListsRow.laid w) (fun _ _ _ hh h => h.of_heap hh) own started (by kernel_rfl) Tryz.func7
    (ChangeSpec.witness_shaped (enc := enc) (C := Tryz.checked) (os := os) (X := fun w _ => laidMetH Tryz.prog Rows.decideListsRow.laid w) false (laidWorld os) #[.slice none 0 0, .agg #[.int .u8 0, .int .u8 0, .int .u8 0, .int .u8 0]] 8 rfl (World.shaped_of_RefB (by kernel_rfl) (by kernel_rfl)) (by kernel_rfl) (by kernel_rfl) (by kernel_rfl) (laid_met os _)) ?_
  intro W base args ds gs before hval0 hW hcnd hsz0 _ _
  have hsz : (DataW.weightsEach Tryz.prog (Tryz.f7.params.toList ++ Rows.decideListsSpec.plain.varTypes Tryz.prog) (ds ++ gs)).all (· ≤ reachBytes) = true := hsz0
  have hval : ∀ (j : Nat) t v, Tryz.f7.params[j]? = some t → args[j]? = some v → Value.okWide Tryz.prog W .any base t v := hval0
  have hW' := hW
  obtain ⟨p, q, hA0, hV, rfl, hfz, hnd⟩ := hW
  have hA : DataW.TrodAll enc Tryz.prog W 0 (fun _ => true) true Tryz.f7.params.toList args.toList ds p := hA0
  rw [Tryz.params7] at hA hval hsz
  obtain ⟨v0, vs0, d0, ds0, p0, q0, hargs, rfl, rfl, h0, r0⟩ := trodAll_cons hA
  obtain ⟨v1, vs1, d1, ds1, p1, q1, rfl, rfl, rfl, h1, r1⟩ := trodAll_cons r0
  obtain ⟨rfl, rfl, rfl⟩ := trodAll_nil r1
  obtain rfl : args = #[v0, v1] := by cases args; simp_all
  obtain ⟨rfl, rfl⟩ := trodVars_none hV
  have k0 := h0
  have lt0 : ∀ x ∈ p0, x.block < W.heap.size := by obtain ⟨m, hm⟩ := k0; exact DataW.trod_lt m _ _ _ hm
  obtain ⟨y0, z0, g0, s0⟩ := read_data (cx := Acx) (B := Bo) Atab (anyBulk H) (M := 0) (N := 20) (T := 28) (i := ⟨(.list (.pair (.int .u8) (.pair (.int .u8) (.pair (.int .u8) (.pair (.int .u8) .unit))))), 69, [], 4, false, false, false, []⟩) (by kernel_rfl) (by kernel_rfl) (fun e => by cases e) (hval 0 28 v0 rfl rfl) h0 (weightsEach_get _ _ 0 28 d0 hsz rfl rfl)
  have k1 := h1
  have lt1 : ∀ x ∈ p1, x.block < W.heap.size := by obtain ⟨m, hm⟩ := k1; exact DataW.trod_lt m _ _ _ hm
  obtain ⟨y1, z1, g1, s1⟩ := read_data (cx := Acx) (B := Bo) Atab (anyBulk H) (M := 0) (N := 20) (T := 69) (i := ⟨(.pair (.int .u8) (.pair (.int .u8) (.pair (.int .u8) (.pair (.int .u8) .unit)))), 0, [5, 5, 5, 5], 4, false, true, false, []⟩) (by kernel_rfl) (by kernel_rfl) (fun e => by cases e) (hval 1 69 v1 rfl rfl) h1 (weightsEach_get _ _ 1 69 d1 hsz rfl rfl)
  refine (walk W y0 y1 v0 z0 v1 z1 (decideLists_law rfl y0 y1 g0 g1)).mono fun e W' ⟨he, bel⟩ => ?_
  subst he
  exact ⟨_, rfl, _, _, _, [], _, [], hW', trodAll_mk1 (shut_bool Tryz.underlying4 _), (trodAll_cons_mk (Below.trod laidOut (by kernel_rfl) (of_decide_eq_true (by kernel_rfl)) k0 bel lt0) (trodAll_cons_mk (Below.trod laidOut (by kernel_rfl) (of_decide_eq_true (by kernel_rfl)) k1 bel lt1) trodAll_mk0)), rfl, bel.frame _, fun h => by cases h⟩
theorem over : Rows.decideListsRow.holds Tryz.pinned (OpenSpec.ofChange Rows.decideListsSpec) :=
  OpenClaim.holds_of_wide 7 Tryz.f7 rfl rfl rfl rfl rfl rfl rfl ⟨rfl, rfl, rfl, rfl, rfl⟩ rfl rfl rfl rfl rfl cName Tryz.func7 cClosed
    (of_decide_eq_true (by kernel_rfl)) (by unfold Func.isWrapper; first | (rw [if_pos (by decide +kernel)]; kernel_rfl) | (rw [if_neg (by decide +kernel)]; exact ⟨rfl, rfl⟩))
    (fun os started H enc _ => lifted os started H enc)
theorem proved : Rows.DecideListsSaid := over
end Go.Proofs.YtddbnkpkjnnggaaGreatDoor.decideLists
namespace Go.Proofs.YtddbnkpkjnnggaaGreatDoor
theorem decideLists_holds : Rows.DecideListsSaid := decideLists.proved
end Go.Proofs.YtddbnkpkjnnggaaGreatDoor
#print axioms Go.Proofs.YtddbnkpkjnnggaaGreatDoor.decideLists_holds
