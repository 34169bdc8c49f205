/- CostAdds: for every input the law returns true and leaves its arguments as they were. Conditions: none beyond the given statement. -/
import Derived.Test.YtmmmpanpbphkdaaGreatDoorRows
import Derived.Test.YtmmmpanpbphkdaaGreatDoorLC
import Derived.Test.YtmmmpanpbphkdaaGreatDoorE
import Derived.Test.YtmmmpanpbphkdaaGreatDoorP
import Derived.Test.YtmmmpanpbphkdaaGreatDoorXD
import Derived.LaidMore
import Derived.LaidHandle
import Derived.Stop.Joined
import Derived.WalkKit
import Derived.ProofKit
import Derived.OpenShut
import Derived.ShutString
import Derived.ChangeOld
import Derived.Below
import Derived.SizedLaws
import Derived.Test.YtmmmpanpbphkdaaGreatDoorCards
import Derived.Test.YtmmmpanpbphkdaaGreatDoorTie
import Derived.SevenTiedAt
namespace Go.Proofs.YtmmmpanpbphkdaaGreatDoor.costAdds
open Go.ChangeShapes Go.WideShapes Go.ChangeAt Go.RowKit Go.X D
open Go.ChangeMaps (open_string shut_string)
set_option linter.unusedVariables false
theorem own : ownKnob Tryz.prog.godebug = none := by kernel_rfl
theorem alj : laidOutB Tryz.prog = true := by kernel_rfl
def acT : List (Nat × TI) -> Ty -> Nat
  | [], _ => 0
  | p :: l, t => bif decide (p.2.ty = .list t) then p.2.bytes else acT l t
abbrev Bo : Ty -> Nat := acT Acx.tab
theorem eg (s : lK.S.ty.den) : lK.g s = fP s := by kernel_rfl
set_option maxRecDepth 100000 in
theorem apa (w : World) (hglob : ∀ g, At (Go.X.Told w) w g 0 ((Env.glob g).map fval)) (y0 : (List ((Int) × (Int) × (Int) × Unit)) × ((List ((Int) × (Int) × (Int) × (Int) × (Int) × (Int) × Unit)) × (List ((Int) × (Int) × (Int) × (Int) × (Int) × (Int) × Unit)) × (List ((Int) × (Int) × (Int) × (Int) × (Int) × (Int) × Unit)) × (List ((Int) × (Int) × (Int) × (Int) × (Int) × (Int) × Unit)) × Unit) × (Int) × Unit) (y1 : (Int) × (Int) × (Int) × (Int) × (Int) × (Int) × Unit) (v0 : Value) (r0 : VR (Go.X.Told w) w (.pair (.list (.pair (.int .u8) (.pair (.int .u8) (.pair (.int .u8) .unit)))) (.pair (.pair (.list (.pair (.int .u8) (.pair (.int .u8) (.pair (.int .u8) (.pair (.int .u8) (.pair (.int .u8) (.pair (.int .u8) .unit))))))) (.pair (.list (.pair (.int .u8) (.pair (.int .u8) (.pair (.int .u8) (.pair (.int .u8) (.pair (.int .u8) (.pair (.int .u8) .unit))))))) (.pair (.list (.pair (.int .u8) (.pair (.int .u8) (.pair (.int .u8) (.pair (.int .u8) (.pair (.int .u8) (.pair (.int .u8) .unit))))))) (.pair (.list (.pair (.int .u8) (.pair (.int .u8) (.pair (.int .u8) (.pair (.int .u8) (.pair (.int .u8) (.pair (.int .u8) .unit))))))) .unit)))) (.pair (.int .u8) .unit))) y0 v0) (v1 : Value) (r1 : VR (Go.X.Told w) w (.pair (.int .u8) (.pair (.int .u8) (.pair (.int .u8) (.pair (.int .u8) (.pair (.int .u8) (.pair (.int .u8) .unit)))))) y1 v1) (h : fP (y0, y1, ()) = some (true, ())) :
    Calls Tryz.prog 3 #[v0, v1] w fun e w' => e = .returned (.bool true) /\ Below w.heap.size w w' := by
  have g : GOK Tryz.prog 3 [.dat (.pair (.list (.pair (.int .u8) (.pair (.int .u8) (.pair (.int .u8) .unit)))) (.pair (.pair (.list (.pair (.int .u8) (.pair (.int .u8) (.pair (.int .u8) (.pair (.int .u8) (.pair (.int .u8) (.pair (.int .u8) .unit))))))) (.pair (.list (.pair (.int .u8) (.pair (.int .u8) (.pair (.int .u8) (.pair (.int .u8) (.pair (.int .u8) (.pair (.int .u8) .unit))))))) (.pair (.list (.pair (.int .u8) (.pair (.int .u8) (.pair (.int .u8) (.pair (.int .u8) (.pair (.int .u8) (.pair (.int .u8) .unit))))))) (.pair (.list (.pair (.int .u8) (.pair (.int .u8) (.pair (.int .u8) (.pair (.int .u8) (.pair (.int .u8) (.pair (.int .u8) .unit))))))) .unit)))) (.pair (.int .u8) .unit))) y0, .dat (.pair (.int .u8) (.pair (.int .u8) (.pair (.int .u8) (.pair (.int .u8) (.pair (.int .u8) (.pair (.int .u8) .unit)))))) y1] [] (.dat .bool true) [] := abi [.dat (.pair (.list (.pair (.int .u8) (.pair (.int .u8) (.pair (.int .u8) .unit)))) (.pair (.pair (.list (.pair (.int .u8) (.pair (.int .u8) (.pair (.int .u8) (.pair (.int .u8) (.pair (.int .u8) (.pair (.int .u8) .unit))))))) (.pair (.list (.pair (.int .u8) (.pair (.int .u8) (.pair (.int .u8) (.pair (.int .u8) (.pair (.int .u8) (.pair (.int .u8) .unit))))))) (.pair (.list (.pair (.int .u8) (.pair (.int .u8) (.pair (.int .u8) (.pair (.int .u8) (.pair (.int .u8) (.pair (.int .u8) .unit))))))) (.pair (.list (.pair (.int .u8) (.pair (.int .u8) (.pair (.int .u8) (.pair (.int .u8) (.pair (.int .u8) (.pair (.int .u8) .unit))))))) .unit)))) (.pair (.int .u8) .unit))) y0, .dat (.pair (.int .u8) (.pair (.int .u8) (.pair (.int .u8) (.pair (.int .u8) (.pair (.int .u8) (.pair (.int .u8) .unit)))))) y1] [] (y0, y1, ()) (true, ()) (by kernel_rfl) ((eg (y0, y1, ())).trans h)
  exact ams hglob g rfl ⟨v0, _, rfl, r0, ⟨v1, _, rfl, r1, rfl⟩⟩
set_option maxRecDepth 100000 in
theorem aoW : Tryz.prog.globalNamed "downspout/trace.steps" = some 0 := by kernel_rfl
theorem aoX : (Tryz.prog.globals[0]?).map (·.type) = some 227 := by kernel_rfl
theorem ao3 : Tryz.prog.cellsOf 226 = 1 := by kernel_rfl
/-- What the row's condition says of the laid variable. -/
theorem aoV {W : World} (h : laidMetH Tryz.prog Rows.costAddsRow.laid W) : ∀ g, At (Go.X.Told W) W g 0 ((Env.glob g).map fval) := fun g => by
  by_cases hg : g = 0
  · subst hg
    exact alK (h.funcs (List.mem_singleton.2 rfl)) rfl aoW aoX (fs := Env.glob 0) Tryz.underlying227 Tryz.underlying226 ao3 (by kernel_rfl)
  · have e : Env.glob g = [] := by
      show (bif Nat.beq g 0 then _ else []) = []
      rw [show Nat.beq g 0 = false from acf hg]
      rfl
    rw [e]
    exact fun i v h => by simp at h
/-- The door's own heap meets the condition. -/
theorem amQ (os : Os) (args : Array Value) : laidMetH Tryz.prog Rows.costAddsRow.laid ((World.doorLaid Tryz.prog 5000 os).forCall (fun _ _ => 0) ⟨#[], args, []⟩).memory :=
  laidMetH_of_parts3 (fuel := 8) (laidMet_of_run' 8 (by kernel_rfl) (by kernel_rfl)) (by kernel_rfl) (by kernel_rfl)
set_option maxRecDepth 100000 in
theorem aoD (os : Os) (started : os.Started) (H : Type) (enc : TypeId × Value -> H) :
    ReturnsInHanded {} Tryz.checked os 3 .any (fun w args => (Rows.costAddsSpec.pre enc Tryz.prog Tryz.f3 [] false w args /\ laidMetH Tryz.prog Rows.costAddsRow.laid w) /\ sizedMet enc Tryz.prog Tryz.f3 (OpenSpec.ofChange Rows.costAddsSpec) false w args) (Rows.costAddsSpec.post enc Tryz.prog Tryz.f3 false true false false) := by
  refine returnsInHanded_of_change_and (C := Tryz.checked) (X := fun w _ => laidMetH Tryz.prog Rows.costAddsRow.laid w) (fun _ _ _ hh h => laidMetH.of_heap hh h) own started (by kernel_rfl) Tryz.func3
    (ChangeSpec.witness_shaped (enc := enc) (C := Tryz.checked) (os := os) (X := fun w _ => laidMetH Tryz.prog Rows.costAddsRow.laid w) false (World.doorLaid Tryz.prog 5000 os) #[.agg #[.slice none 0 0, .slice none 0 0, .slice none 0 0, .slice none 0 0, .slice none 0 0, .int .u8 0], .agg #[.int .u8 0, .int .u8 0, .int .u8 0, .int .u8 0, .int .u8 0, .int .u8 0]] 8 rfl (World.shaped_of_RefB (by kernel_rfl) (by kernel_rfl)) (by kernel_rfl) (by kernel_rfl) (by kernel_rfl) (amQ os _)) ?_
  intro W base args ds gs before hval0 hW hcnd hsz0 hL _
  have hsz : (DataW.weightsEach Tryz.prog (Tryz.f3.params.toList ++ Rows.costAddsSpec.plain.varTypes Tryz.prog) (ds ++ gs)).all (· <= reachBytes) = true := hsz0
  have hval : ∀ (j : Nat) t v, Tryz.f3.params[j]? = some t -> args[j]? = some v -> Value.okWide Tryz.prog W .any base t v := hval0
  have hW' := hW
  obtain ⟨p, q, hA0, hV, rfl, hfz, hnd⟩ := hW
  have hA : DataW.TrodAll enc Tryz.prog W 0 (fun _ => true) true Tryz.f3.params.toList args.toList ds p := hA0
  rw [Tryz.params3] at hA hval hsz
  obtain ⟨v0, vs0, d0, ds0, p0, q0, hargs, rfl, rfl, h0, r0⟩ := trodAll_cons hA
  obtain ⟨v1, vs1, d1, ds1, p1, q1, rfl, rfl, rfl, h1, r1⟩ := trodAll_cons r0
  obtain ⟨rfl, rfl, rfl⟩ := trodAll_nil r1
  obtain rfl : args = #[v0, v1] := by cases args; simp_all
  obtain ⟨rfl, rfl⟩ := trodVars_none hV
  have k0 := h0
  have lt0 : ∀ x ∈ p0, x.block < W.heap.size := by obtain ⟨m, hm⟩ := k0; exact DataW.trod_lt m _ _ _ hm
  obtain ⟨y0, z0, g0, s0⟩ := ahp (cx := Acx) (B := Bo) lC (akV H) (M := 0) (N := 20) (T := 26) (i := ⟨(.pair (.list (.pair (.int .u8) (.pair (.int .u8) (.pair (.int .u8) .unit)))) (.pair (.pair (.list (.pair (.int .u8) (.pair (.int .u8) (.pair (.int .u8) (.pair (.int .u8) (.pair (.int .u8) (.pair (.int .u8) .unit))))))) (.pair (.list (.pair (.int .u8) (.pair (.int .u8) (.pair (.int .u8) (.pair (.int .u8) (.pair (.int .u8) (.pair (.int .u8) .unit))))))) (.pair (.list (.pair (.int .u8) (.pair (.int .u8) (.pair (.int .u8) (.pair (.int .u8) (.pair (.int .u8) (.pair (.int .u8) .unit))))))) (.pair (.list (.pair (.int .u8) (.pair (.int .u8) (.pair (.int .u8) (.pair (.int .u8) (.pair (.int .u8) (.pair (.int .u8) .unit))))))) .unit)))) (.pair (.int .u8) .unit))), 0, [22, 24, 5], 128, false, false, false, []⟩) (by kernel_rfl) (by kernel_rfl) (fun e => by cases e) (hval 0 26 v0 rfl rfl) h0 (kL _ _ 0 26 d0 hsz rfl rfl)
  have k1 := h1
  have lt1 : ∀ x ∈ p1, x.block < W.heap.size := by obtain ⟨m, hm⟩ := k1; exact DataW.trod_lt m _ _ _ hm
  obtain ⟨y1, z1, g1, s1⟩ := ahp (cx := Acx) (B := Bo) lC (akV H) (M := 0) (N := 20) (T := 28) (i := ⟨(.pair (.int .u8) (.pair (.int .u8) (.pair (.int .u8) (.pair (.int .u8) (.pair (.int .u8) (.pair (.int .u8) .unit)))))), 0, [5, 5, 5, 5, 5, 5], 6, false, true, false, []⟩) (by kernel_rfl) (by kernel_rfl) (fun e => by cases e) (hval 1 28 v1 rfl rfl) h1 (kL _ _ 1 28 d1 hsz rfl rfl)
  refine (apa W (aoV hL) y0 y1 v0 z0 v1 z1 (ahF rfl rfl y0 y1 g0 g1)).mono fun e W' ⟨he, bel⟩ => ?_
  subst he
  exact ⟨_, rfl, _, _, _, [], _, [], hW', trodAll_mk1 (shut_bool Tryz.underlying4 _), (trodAll_cons_mk (Below.trod alj (by kernel_rfl) (of_decide_eq_true (by kernel_rfl)) k0 bel lt0) (trodAll_cons_mk (Below.trod alj (by kernel_rfl) (of_decide_eq_true (by kernel_rfl)) k1 bel lt1) trodAll_mk0)), rfl, bel.frame _, fun h => by cases h⟩
theorem over : Rows.costAddsRow.holds Tryz.pinned (OpenSpec.ofChange Rows.costAddsSpec) :=
  OpenClaim.holds_of_wide 3 Tryz.f3 rfl rfl rfl rfl rfl rfl rfl ⟨rfl, rfl, rfl, rfl, rfl⟩ rfl rfl rfl rfl rfl aoT Tryz.func3 anJ
    (of_decide_eq_true (by kernel_rfl)) (by unfold Func.isWrapper; first | (rw [if_pos (by decide +kernel)]; kernel_rfl) | (rw [if_neg (by decide +kernel)]; exact ⟨rfl, rfl⟩))
    (fun os started H enc _ => aoD os started H enc)
theorem proved : Rows.CostAddsSaid := over
end Go.Proofs.YtmmmpanpbphkdaaGreatDoor.costAdds
namespace Go.Proofs.YtmmmpanpbphkdaaGreatDoor
/-- The row, under a short name, for the claim. -/
theorem costAdds_holds : Rows.CostAddsSaid := costAdds.proved
end Go.Proofs.YtmmmpanpbphkdaaGreatDoor
#print axioms Go.Proofs.YtmmmpanpbphkdaaGreatDoor.costAdds_holds
/- CostAdds: the tied card over the row. Conditions: none beyond the given statement. -/
namespace Go.Proofs.YtmmmpanpbphkdaaGreatDoor.costAdds
open Go
theorem card : Claim7.holds Tryz.pinned (.plain (OpenSpec.ofChange Rows.costAddsSpec)) Rows.costAddsCard :=
  Claim7.holds_tied_plain_at .later [] [.funcs] true (true, "bcc27c8b76381c8b25d6cd06ea615f4ebd899e3b57b78e339fb0dd86132b7329") false
    proved (fun _ h => by cases h) (by as_aux_lemma => kernel_rfl) (fun _ h => by cases h) costAdds_row_tie rfl ⟨rfl, rfl⟩ (by as_aux_lemma => kernel_rfl) rfl
    (fun f fn hf hfn => by
      obtain rfl : f = 3 := Option.some.inj ((show Tryz.prog.funcNamed "downspout/downspoutlaw30.CostAdds" = some 3 by as_aux_lemma => kernel_rfl).symm.trans hf) |>.symm
      obtain rfl : fn = Tryz.f3 := (Option.some.inj (Tryz.func3.symm.trans hfn)).symm
      exact ⟨by as_aux_lemma => kernel_rfl, fun j t ht => by
        rw [Tryz.params3] at ht
        have hm : t ∈ [26, 28] := by simpa using Array.mem_of_getElem? ht
        have hall : ([26, 28].all fun u => !Tryz.prog.wantsStandIn u) = true := by as_aux_lemma => kernel_rfl
        exact (show Tryz.prog.wantsStandIn t = false by simpa using List.all_eq_true.1 hall t hm)⟩)
    (by as_aux_lemma => kernel_rfl)
end Go.Proofs.YtmmmpanpbphkdaaGreatDoor.costAdds
namespace Go.Proofs.YtmmmpanpbphkdaaGreatDoor
/-- The card, under a short name, for the claim. -/
theorem costAddsCard_holds : Rows.CostAddsCardSaid := costAdds.card
end Go.Proofs.YtmmmpanpbphkdaaGreatDoor
#print axioms Go.Proofs.YtmmmpanpbphkdaaGreatDoor.costAddsCard_holds
