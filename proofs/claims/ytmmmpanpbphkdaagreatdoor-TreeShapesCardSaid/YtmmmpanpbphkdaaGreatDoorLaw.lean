/- TreeShapes: for every input the law returns true and leaves its arguments as they were. Conditions: none beyond the given statement. -/
import Derived.Test.YtmmmpanpbphkdaaGreatDoorRows
import Derived.Test.YtmmmpanpbphkdaaGreatDoorLC
import Derived.Test.YtmmmpanpbphkdaaGreatDoorE
import Derived.Test.YtmmmpanpbphkdaaGreatDoorP
import Derived.Test.YtmmmpanpbphkdaaGreatDoorXD
import Derived.LaidMore
import Derived.LaidHandle
import Derived.Stop.Joined
import Derived.Lib.LaidU8
import Derived.WalkKit
import Derived.ProofKit
import Derived.OpenShut
import Derived.ShutString
import Derived.ChangeOld
import Derived.Below
import Derived.SizedLaws
import Derived.Test.YtmmmpanpbphkdaaGreatDoorCards
import Derived.Test.YtmmmpanpbphkdaaGreatDoorTie
import Derived.SevenTiedAt
namespace Go.Proofs.YtmmmpanpbphkdaaGreatDoor.treeShapes
open Go.ChangeShapes Go.WideShapes Go.ChangeAt Go.RowKit Go.X D
open Go.ChangeMaps (open_string shut_string)
set_option linter.unusedVariables false
theorem own : ownKnob Tryz.prog.godebug = none := by kernel_rfl
theorem aqt : laidOutB Tryz.prog = true := by kernel_rfl
def akX : List (Nat × TI) -> Ty -> Nat
  | [], _ => 0
  | p :: l, t => bif decide (p.2.ty = .list t) then p.2.bytes else akX l t
abbrev Bo : Ty -> Nat := akX Acx.tab
theorem eg (s : eo.S.ty.den) : eo.g s = kO s := by kernel_rfl
set_option maxRecDepth 100000 in
theorem awu (w : World) (hglob : ∀ g, At (Go.X.Told w) w g 0 ((Env.glob g).map fval)) (y0 : (Int) × (Int) × (Int) × Unit) (y1 : (List ((Int) × (Int) × (Int) × Unit)) × ((List ((Int) × (Int) × (Int) × (Int) × (Int) × (Int) × Unit)) × (List ((Int) × (Int) × (Int) × (Int) × (Int) × (Int) × Unit)) × (List ((Int) × (Int) × (Int) × (Int) × (Int) × (Int) × Unit)) × (List ((Int) × (Int) × (Int) × (Int) × (Int) × (Int) × Unit)) × Unit) × (Int) × Unit) (y2 : Int) (v0 : Value) (r0 : VR (Go.X.Told w) w (.pair (.int .i16) (.pair (.int .i16) (.pair (.int .i16) .unit))) y0 v0) (v1 : Value) (r1 : VR (Go.X.Told w) w (.pair (.list (.pair (.int .u8) (.pair (.int .u8) (.pair (.int .u8) .unit)))) (.pair (.pair (.list (.pair (.int .u8) (.pair (.int .u8) (.pair (.int .u8) (.pair (.int .u8) (.pair (.int .u8) (.pair (.int .u8) .unit))))))) (.pair (.list (.pair (.int .u8) (.pair (.int .u8) (.pair (.int .u8) (.pair (.int .u8) (.pair (.int .u8) (.pair (.int .u8) .unit))))))) (.pair (.list (.pair (.int .u8) (.pair (.int .u8) (.pair (.int .u8) (.pair (.int .u8) (.pair (.int .u8) (.pair (.int .u8) .unit))))))) (.pair (.list (.pair (.int .u8) (.pair (.int .u8) (.pair (.int .u8) (.pair (.int .u8) (.pair (.int .u8) (.pair (.int .u8) .unit))))))) .unit)))) (.pair (.int .u8) .unit))) y1 v1) (v2 : Value) (r2 : VR (Go.X.Told w) w (.int .u8) y2 v2) (h : kO (y0, y1, y2, ()) = some (true, ())) :
    Calls Tryz.prog 9 #[v0, v1, v2] w fun e w' => e = .returned (.bool true) /\ Below w.heap.size w w' := by
  have g : GOK Tryz.prog 9 [.dat (.pair (.int .i16) (.pair (.int .i16) (.pair (.int .i16) .unit))) y0, .dat (.pair (.list (.pair (.int .u8) (.pair (.int .u8) (.pair (.int .u8) .unit)))) (.pair (.pair (.list (.pair (.int .u8) (.pair (.int .u8) (.pair (.int .u8) (.pair (.int .u8) (.pair (.int .u8) (.pair (.int .u8) .unit))))))) (.pair (.list (.pair (.int .u8) (.pair (.int .u8) (.pair (.int .u8) (.pair (.int .u8) (.pair (.int .u8) (.pair (.int .u8) .unit))))))) (.pair (.list (.pair (.int .u8) (.pair (.int .u8) (.pair (.int .u8) (.pair (.int .u8) (.pair (.int .u8) (.pair (.int .u8) .unit))))))) (.pair (.list (.pair (.int .u8) (.pair (.int .u8) (.pair (.int .u8) (.pair (.int .u8) (.pair (.int .u8) (.pair (.int .u8) .unit))))))) .unit)))) (.pair (.int .u8) .unit))) y1, .dat (.int .u8) y2] [] (.dat .bool true) [] := agw [.dat (.pair (.int .i16) (.pair (.int .i16) (.pair (.int .i16) .unit))) y0, .dat (.pair (.list (.pair (.int .u8) (.pair (.int .u8) (.pair (.int .u8) .unit)))) (.pair (.pair (.list (.pair (.int .u8) (.pair (.int .u8) (.pair (.int .u8) (.pair (.int .u8) (.pair (.int .u8) (.pair (.int .u8) .unit))))))) (.pair (.list (.pair (.int .u8) (.pair (.int .u8) (.pair (.int .u8) (.pair (.int .u8) (.pair (.int .u8) (.pair (.int .u8) .unit))))))) (.pair (.list (.pair (.int .u8) (.pair (.int .u8) (.pair (.int .u8) (.pair (.int .u8) (.pair (.int .u8) (.pair (.int .u8) .unit))))))) (.pair (.list (.pair (.int .u8) (.pair (.int .u8) (.pair (.int .u8) (.pair (.int .u8) (.pair (.int .u8) (.pair (.int .u8) .unit))))))) .unit)))) (.pair (.int .u8) .unit))) y1, .dat (.int .u8) y2] [] (y0, y1, y2, ()) (true, ()) (by kernel_rfl) ((eg (y0, y1, y2, ())).trans h)
  exact aup hglob g rfl ⟨v0, _, rfl, r0, ⟨v1, _, rfl, r1, ⟨v2, _, rfl, r2, rfl⟩⟩⟩
set_option maxRecDepth 100000 in
/-- The world that the doors lay, with the two listed tables. -/
noncomputable def apA (os : Os) : World :=
  let w0 := World.doorLaid Tryz.prog 5000 os
  let put (h : Array Obj) (g : Nat) (cs : Array Value) : Array Obj := h.modify g fun
    | .cells _ t frozen => .cells cs t frozen
    | o => o
  let h1 := put w0.heap 2 (Lib.firstTab.map fun z => Value.int .u8 z).toArray
  let h2 := put h1 3 ((List.range 16).flatMap fun i => [Value.int .u8 (Lib.accLo i), Value.int .u8 (Lib.accHi i)]).toArray
  { w0 with heap := h2 }
theorem awm : Tryz.prog.globalNamed "downspout/trace.steps" = some 0 := by kernel_rfl
theorem awn : (Tryz.prog.globals[0]?).map (·.type) = some 227 := by kernel_rfl
theorem avQ : Tryz.prog.cellsOf 226 = 1 := by kernel_rfl
/-- What the row's condition says of the laid variable. -/
theorem awl {W : World} (h : laidMetH Tryz.prog Rows.treeShapesRow.laid W) : ∀ g, At (Go.X.Told W) W g 0 ((Env.glob g).map fval) := fun g => by
  by_cases hg : g = 0
  · subst hg
    exact atO (h.funcs (.tail _ (.head _))) rfl awm awn (fs := Env.glob 0) Tryz.underlying227 Tryz.underlying226 avQ (by kernel_rfl)
  · have e : Env.glob g = [] := by
      show (bif Nat.beq g 0 then _ else []) = []
      rw [show Nat.beq g 0 = false from akr hg]
      rfl
    rw [e]
    exact fun i v h => by simp at h
/-- The door's own heap meets the condition. -/
theorem auB (os : Os) (args : Array Value) : laidMetH Tryz.prog Rows.treeShapesRow.laid ((apA os).forCall (fun _ _ => 0) ⟨#[], args, []⟩).memory :=
  laidMetH_of_parts3 (fuel := 8) (laidMet_of_run' 8 (by kernel_rfl) (by kernel_rfl)) (by kernel_rfl) (by kernel_rfl)
set_option maxRecDepth 100000 in
theorem avZ (os : Os) (started : os.Started) (H : Type) (enc : TypeId × Value -> H) :
    ReturnsInHanded {} Tryz.checked os 9 .any (fun w args => (Rows.treeShapesSpec.pre enc Tryz.prog Tryz.f9 [] false w args /\ laidMetH Tryz.prog Rows.treeShapesRow.laid w) /\ sizedMet enc Tryz.prog Tryz.f9 (OpenSpec.ofChange Rows.treeShapesSpec) false w args) (Rows.treeShapesSpec.post enc Tryz.prog Tryz.f9 false true false false) := by
  refine returnsInHanded_of_change_and (C := Tryz.checked) (X := fun w _ => laidMetH Tryz.prog Rows.treeShapesRow.laid w) (fun _ _ _ hh h => laidMetH.of_heap hh h) own started (by kernel_rfl) Tryz.func9
    (ChangeSpec.witness_shaped (enc := enc) (C := Tryz.checked) (os := os) (X := fun w _ => laidMetH Tryz.prog Rows.treeShapesRow.laid w) false (apA os) #[.agg #[.int .i16 0, .int .i16 0, .int .i16 0], .agg #[.slice none 0 0, .slice none 0 0, .slice none 0 0, .slice none 0 0, .slice none 0 0, .int .u8 0], .int .u8 0] 8 rfl (World.shaped_of_RefB (by kernel_rfl) (by kernel_rfl)) (by kernel_rfl) (by kernel_rfl) (by kernel_rfl) (auB os _)) ?_
  intro W base args ds gs before hval0 hW hcnd hsz0 hL _
  have hsz : (DataW.weightsEach Tryz.prog (Tryz.f9.params.toList ++ Rows.treeShapesSpec.plain.varTypes Tryz.prog) (ds ++ gs)).all (· <= reachBytes) = true := hsz0
  have hval : ∀ (j : Nat) t v, Tryz.f9.params[j]? = some t -> args[j]? = some v -> Value.okWide Tryz.prog W .any base t v := hval0
  have hW' := hW
  obtain ⟨p, q, hA0, hV, rfl, hfz, hnd⟩ := hW
  have hA : DataW.TrodAll enc Tryz.prog W 0 (fun _ => true) true Tryz.f9.params.toList args.toList ds p := hA0
  rw [Tryz.params9] at hA hval hsz
  obtain ⟨v0, vs0, d0, ds0, p0, q0, hargs, rfl, rfl, h0, r0⟩ := trodAll_cons hA
  obtain ⟨v1, vs1, d1, ds1, p1, q1, rfl, rfl, rfl, h1, r1⟩ := trodAll_cons r0
  obtain ⟨v2, vs2, d2, ds2, p2, q2, rfl, rfl, rfl, h2, r2⟩ := trodAll_cons r1
  obtain ⟨rfl, rfl, rfl⟩ := trodAll_nil r2
  obtain rfl : args = #[v0, v1, v2] := by cases args; simp_all
  obtain ⟨rfl, rfl⟩ := trodVars_none hV
  have k0 := h0
  have lt0 : ∀ x ∈ p0, x.block < W.heap.size := by obtain ⟨m, hm⟩ := k0; exact DataW.trod_lt m _ _ _ hm
  obtain ⟨y0, z0, g0, s0⟩ := ak8 (cx := Acx) (B := Bo) fe (apV H) (M := 0) (N := 20) (T := 90) (i := ⟨(.pair (.int .i16) (.pair (.int .i16) (.pair (.int .i16) .unit))), 0, [89, 89, 89], 6, false, true, false, []⟩) (by kernel_rfl) (by kernel_rfl) (fun e => by cases e) (hval 0 90 v0 rfl rfl) h0 (ow _ _ 0 90 d0 hsz rfl rfl)
  have k1 := h1
  have lt1 : ∀ x ∈ p1, x.block < W.heap.size := by obtain ⟨m, hm⟩ := k1; exact DataW.trod_lt m _ _ _ hm
  obtain ⟨y1, z1, g1, s1⟩ := ak8 (cx := Acx) (B := Bo) fe (apV H) (M := 0) (N := 20) (T := 26) (i := ⟨(.pair (.list (.pair (.int .u8) (.pair (.int .u8) (.pair (.int .u8) .unit)))) (.pair (.pair (.list (.pair (.int .u8) (.pair (.int .u8) (.pair (.int .u8) (.pair (.int .u8) (.pair (.int .u8) (.pair (.int .u8) .unit))))))) (.pair (.list (.pair (.int .u8) (.pair (.int .u8) (.pair (.int .u8) (.pair (.int .u8) (.pair (.int .u8) (.pair (.int .u8) .unit))))))) (.pair (.list (.pair (.int .u8) (.pair (.int .u8) (.pair (.int .u8) (.pair (.int .u8) (.pair (.int .u8) (.pair (.int .u8) .unit))))))) (.pair (.list (.pair (.int .u8) (.pair (.int .u8) (.pair (.int .u8) (.pair (.int .u8) (.pair (.int .u8) (.pair (.int .u8) .unit))))))) .unit)))) (.pair (.int .u8) .unit))), 0, [22, 24, 5], 128, false, false, false, []⟩) (by kernel_rfl) (by kernel_rfl) (fun e => by cases e) (hval 1 26 v1 rfl rfl) h1 (ow _ _ 1 26 d1 hsz rfl rfl)
  have k2 := h2
  have lt2 : ∀ x ∈ p2, x.block < W.heap.size := by obtain ⟨m, hm⟩ := k2; exact DataW.trod_lt m _ _ _ hm
  obtain ⟨y2, z2, g2, s2⟩ := ak8 (cx := Acx) (B := Bo) fe (apV H) (M := 0) (N := 20) (T := 5) (i := ⟨(.int .u8), 0, [], 1, false, false, false, []⟩) (by kernel_rfl) (by kernel_rfl) (fun e => by cases e) (hval 2 5 v2 rfl rfl) h2 (ow _ _ 2 5 d2 hsz rfl rfl)
  refine (awu W (awl hL) y0 y1 y2 v0 z0 v1 z1 v2 z2 (aow rfl rfl y0 y1 y2 g0 g1 g2)).mono fun e W' ⟨he, bel⟩ => ?_
  subst he
  exact ⟨_, rfl, _, _, _, [], _, [], hW', trodAll_mk1 (shut_bool Tryz.underlying4 _), (trodAll_cons_mk (Below.trod aqt (by kernel_rfl) (of_decide_eq_true (by kernel_rfl)) k0 bel lt0) (trodAll_cons_mk (Below.trod aqt (by kernel_rfl) (of_decide_eq_true (by kernel_rfl)) k1 bel lt1) (trodAll_cons_mk (Below.trod aqt (by kernel_rfl) (of_decide_eq_true (by kernel_rfl)) k2 bel lt2) trodAll_mk0))), rfl, bel.frame _, fun h => by cases h⟩
theorem over : Rows.treeShapesRow.holds Tryz.pinned (OpenSpec.ofChange Rows.treeShapesSpec) :=
  OpenClaim.holds_of_wide 9 Tryz.f9 rfl rfl rfl rfl rfl rfl rfl ⟨rfl, rfl, rfl, rfl, rfl⟩ rfl rfl rfl rfl rfl awj Tryz.func9 avp
    (of_decide_eq_true (by kernel_rfl)) (by unfold Func.isWrapper; first | (rw [if_pos (by decide +kernel)]; kernel_rfl) | (rw [if_neg (by decide +kernel)]; exact ⟨rfl, rfl⟩))
    (fun os started H enc _ => avZ os started H enc)
theorem proved : Rows.TreeShapesSaid := over
end Go.Proofs.YtmmmpanpbphkdaaGreatDoor.treeShapes
namespace Go.Proofs.YtmmmpanpbphkdaaGreatDoor
/-- The row, under a short name, for the claim. -/
theorem treeShapes_holds : Rows.TreeShapesSaid := treeShapes.proved
end Go.Proofs.YtmmmpanpbphkdaaGreatDoor
#print axioms Go.Proofs.YtmmmpanpbphkdaaGreatDoor.treeShapes_holds
/- TreeShapes: the tied card over the row. Conditions: none beyond the given statement. -/
namespace Go.Proofs.YtmmmpanpbphkdaaGreatDoor.treeShapes
open Go
theorem card : Claim7.holds Tryz.pinned (.plain (OpenSpec.ofChange Rows.treeShapesSpec)) Rows.treeShapesCard :=
  Claim7.holds_tied_plain_at .later [] [.data, .funcs, .pinned] true (true, "bcc27c8b76381c8b25d6cd06ea615f4ebd899e3b57b78e339fb0dd86132b7329") false
    proved (fun _ h => by cases h) (by as_aux_lemma => kernel_rfl) (fun _ h => by cases h) treeShapes_row_tie rfl ⟨rfl, rfl⟩ (by as_aux_lemma => kernel_rfl) rfl
    (fun f fn hf hfn => by
      obtain rfl : f = 9 := Option.some.inj ((show Tryz.prog.funcNamed "downspout/downspoutlaw12.TreeShapes" = some 9 by as_aux_lemma => kernel_rfl).symm.trans hf) |>.symm
      obtain rfl : fn = Tryz.f9 := (Option.some.inj (Tryz.func9.symm.trans hfn)).symm
      exact ⟨by as_aux_lemma => kernel_rfl, fun j t ht => by
        rw [Tryz.params9] at ht
        have hm : t ∈ [90, 26, 5] := by simpa using Array.mem_of_getElem? ht
        have hall : ([90, 26, 5].all fun u => !Tryz.prog.wantsStandIn u) = true := by as_aux_lemma => kernel_rfl
        exact (show Tryz.prog.wantsStandIn t = false by simpa using List.all_eq_true.1 hall t hm)⟩)
    (by as_aux_lemma => kernel_rfl)
end Go.Proofs.YtmmmpanpbphkdaaGreatDoor.treeShapes
namespace Go.Proofs.YtmmmpanpbphkdaaGreatDoor
/-- The card, under a short name, for the claim. -/
theorem treeShapesCard_holds : Rows.TreeShapesCardSaid := treeShapes.card
end Go.Proofs.YtmmmpanpbphkdaaGreatDoor
#print axioms Go.Proofs.YtmmmpanpbphkdaaGreatDoor.treeShapesCard_holds
