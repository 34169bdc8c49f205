/- TreeParts: for every input the law returns true and leaves its arguments as they were. Conditions: none beyond the given statement. -/
import Derived.Test.YtmmmpanpbphkdaaGreatDoorRows
import Derived.Test.YtmmmpanpbphkdaaGreatDoorLC
import Derived.Test.YtmmmpanpbphkdaaGreatDoorE
import Derived.Test.YtmmmpanpbphkdaaGreatDoorP
import Derived.Test.YtmmmpanpbphkdaaGreatDoorXD
import Derived.LaidMore
import Derived.LaidHandle
import Derived.Stop.Joined
import Derived.Lib.LaidU8
import Derived.WalkKit
import Derived.ProofKit
import Derived.OpenShut
import Derived.ShutString
import Derived.ChangeOld
import Derived.Below
import Derived.SizedLaws
import Derived.Test.YtmmmpanpbphkdaaGreatDoorCards
import Derived.Test.YtmmmpanpbphkdaaGreatDoorTie
import Derived.SevenTiedAt
namespace Go.Proofs.YtmmmpanpbphkdaaGreatDoor.treeParts
open Go.ChangeShapes Go.WideShapes Go.ChangeAt Go.RowKit Go.X D
open Go.ChangeMaps (open_string shut_string)
set_option linter.unusedVariables false
theorem own : ownKnob Tryz.prog.godebug = none := by kernel_rfl
theorem Zj : laidOutB Tryz.prog = true := by kernel_rfl
def W2 : List (Nat × e4) -> aD -> Nat
  | [], _ => 0
  | p :: l, t => bif decide (p.2.ty = .list t) then p.2.bytes else W2 l t
abbrev Qe : aD -> Nat := W2 fV.tab
theorem apF (s : OU.S.ty.den) : OU.g s = wj s := by kernel_rfl
set_option maxRecDepth 100000 in
theorem af2 (w : World) (zE : ∀ g, iT (Go.X.Told w) w g 0 ((Env.glob g).map k9)) (me : (List ((Int) × (Int) × (Int) × Unit)) × ((List ((Int) × (Int) × (Int) × (Int) × (Int) × (Int) × Unit)) × (List ((Int) × (Int) × (Int) × (Int) × (Int) × (Int) × Unit)) × (List ((Int) × (Int) × (Int) × (Int) × (Int) × (Int) × Unit)) × (List ((Int) × (Int) × (Int) × (Int) × (Int) × (Int) × Unit)) × Unit) × (Int) × Unit) (hq : (Int) × (Int) × Unit) (v0 : Value) (aj : cd (Go.X.Told w) w (.pair (.list (.pair (.int .u8) (.pair (.int .u8) (.pair (.int .u8) .unit)))) (.pair (.pair (.list (.pair (.int .u8) (.pair (.int .u8) (.pair (.int .u8) (.pair (.int .u8) (.pair (.int .u8) (.pair (.int .u8) .unit))))))) (.pair (.list (.pair (.int .u8) (.pair (.int .u8) (.pair (.int .u8) (.pair (.int .u8) (.pair (.int .u8) (.pair (.int .u8) .unit))))))) (.pair (.list (.pair (.int .u8) (.pair (.int .u8) (.pair (.int .u8) (.pair (.int .u8) (.pair (.int .u8) (.pair (.int .u8) .unit))))))) (.pair (.list (.pair (.int .u8) (.pair (.int .u8) (.pair (.int .u8) (.pair (.int .u8) (.pair (.int .u8) (.pair (.int .u8) .unit))))))) .unit)))) (.pair (.int .u8) .unit))) me v0) (v1 : Value) (ar : cd (Go.X.Told w) w (.pair (.int .u8) (.pair (.int .u8) .unit)) hq v1) (h : wj (me, hq, ()) = some (true, ())) :
    Calls Tryz.prog 7 #[v0, v1] w fun e w' => e = .returned (.bool true) /\ Below w.heap.size w w' := by
  have g : iG Tryz.prog 7 [.dat (.pair (.list (.pair (.int .u8) (.pair (.int .u8) (.pair (.int .u8) .unit)))) (.pair (.pair (.list (.pair (.int .u8) (.pair (.int .u8) (.pair (.int .u8) (.pair (.int .u8) (.pair (.int .u8) (.pair (.int .u8) .unit))))))) (.pair (.list (.pair (.int .u8) (.pair (.int .u8) (.pair (.int .u8) (.pair (.int .u8) (.pair (.int .u8) (.pair (.int .u8) .unit))))))) (.pair (.list (.pair (.int .u8) (.pair (.int .u8) (.pair (.int .u8) (.pair (.int .u8) (.pair (.int .u8) (.pair (.int .u8) .unit))))))) (.pair (.list (.pair (.int .u8) (.pair (.int .u8) (.pair (.int .u8) (.pair (.int .u8) (.pair (.int .u8) (.pair (.int .u8) .unit))))))) .unit)))) (.pair (.int .u8) .unit))) me, .dat (.pair (.int .u8) (.pair (.int .u8) .unit)) hq] [] (.dat .bool true) [] := ahF [.dat (.pair (.list (.pair (.int .u8) (.pair (.int .u8) (.pair (.int .u8) .unit)))) (.pair (.pair (.list (.pair (.int .u8) (.pair (.int .u8) (.pair (.int .u8) (.pair (.int .u8) (.pair (.int .u8) (.pair (.int .u8) .unit))))))) (.pair (.list (.pair (.int .u8) (.pair (.int .u8) (.pair (.int .u8) (.pair (.int .u8) (.pair (.int .u8) (.pair (.int .u8) .unit))))))) (.pair (.list (.pair (.int .u8) (.pair (.int .u8) (.pair (.int .u8) (.pair (.int .u8) (.pair (.int .u8) (.pair (.int .u8) .unit))))))) (.pair (.list (.pair (.int .u8) (.pair (.int .u8) (.pair (.int .u8) (.pair (.int .u8) (.pair (.int .u8) (.pair (.int .u8) .unit))))))) .unit)))) (.pair (.int .u8) .unit))) me, .dat (.pair (.int .u8) (.pair (.int .u8) .unit)) hq] [] (me, hq, ()) (true, ()) (by kernel_rfl) ((apF (me, hq, ())).trans h)
  exact aow zE g rfl ⟨v0, _, rfl, aj, ⟨v1, _, rfl, ar, rfl⟩⟩
set_option maxRecDepth 100000 in
/-- The world that the doors lay, with the two listed tables. -/
noncomputable def XP (os : Os) : World :=
  let gu := World.doorLaid Tryz.prog 5000 os
  let put (h : Array Obj) (g : Nat) (cs : Array Value) : Array Obj := h.modify g fun
    | .cells _ t frozen => .cells cs t frozen
    | o => o
  let aa := put gu.heap 2 (Lib.firstTab.map fun z => Value.int .u8 z).toArray
  let ad := put aa 3 ((List.range 16).flatMap fun i => [Value.int .u8 (Lib.accLo i), Value.int .u8 (Lib.accHi i)]).toArray
  { gu with heap := ad }
theorem agk : Tryz.prog.globalNamed "downspout/trace.steps" = some 0 := by kernel_rfl
theorem agl : (Tryz.prog.globals[0]?).map (·.type) = some 227 := by kernel_rfl
theorem afe : Tryz.prog.cellsOf 226 = 1 := by kernel_rfl
/-- What the row's condition says of the laid variable. -/
theorem agj {W : World} (h : laidMetH Tryz.prog Rows.treePartsRow.laid W) : ∀ g, iT (Go.X.Told W) W g 0 ((Env.glob g).map k9) := fun g => by
  by_cases bH : g = 0
  · subst bH
    exact anm (h.funcs (.tail _ (.head _))) rfl agk agl (fs := Env.glob 0) Tryz.underlying227 Tryz.underlying226 afe (by kernel_rfl)
  · have e : Env.glob g = [] := by
      show (bif Nat.beq g 0 then _ else []) = []
      rw [show Nat.beq g 0 = false from uR bH]
      rfl
    rw [e]
    exact fun i v h => by simp at h
/-- The door's own heap meets the condition. -/
theorem aob (os : Os) (args : Array Value) : laidMetH Tryz.prog Rows.treePartsRow.laid ((XP os).forCall (fun _ _ => 0) ⟨#[], args, []⟩).memory :=
  laidMetH_of_parts3 (fuel := 8) (laidMet_of_run' 8 (by kernel_rfl) (by kernel_rfl)) (by kernel_rfl) (by kernel_rfl)
set_option maxRecDepth 100000 in
theorem afp (os : Os) (started : os.Started) (H : Type) (enc : TypeId × Value -> H) :
    ReturnsInHanded {} Tryz.checked os 7 .any (fun w args => (Rows.treePartsSpec.pre enc Tryz.prog Tryz.f7 [] false w args /\ laidMetH Tryz.prog Rows.treePartsRow.laid w) /\ sizedMet enc Tryz.prog Tryz.f7 (OpenSpec.ofChange Rows.treePartsSpec) false w args) (Rows.treePartsSpec.post enc Tryz.prog Tryz.f7 false true false false) := by
  refine returnsInHanded_of_change_and (C := Tryz.checked) (X := fun w _ => laidMetH Tryz.prog Rows.treePartsRow.laid w) (fun _ _ _ bC h => laidMetH.of_heap bC h) own started (by kernel_rfl) Tryz.func7
    (ChangeSpec.witness_shaped (enc := enc) (C := Tryz.checked) (os := os) (X := fun w _ => laidMetH Tryz.prog Rows.treePartsRow.laid w) false (XP os) #[.agg #[.slice none 0 0, .slice none 0 0, .slice none 0 0, .slice none 0 0, .slice none 0 0, .int .u8 0], .agg #[.int .u8 0, .int .u8 0]] 8 rfl (World.shaped_of_RefB (by kernel_rfl) (by kernel_rfl)) (by kernel_rfl) (by kernel_rfl) (by kernel_rfl) (aob os _)) ?_
  intro W base args eh gs before arC lL zw arv lK _
  have dh : (DataW.weightsEach Tryz.prog (Tryz.f7.params.toList ++ Rows.treePartsSpec.plain.varTypes Tryz.prog) (eh ++ gs)).all (· <= reachBytes) = true := arv
  have lW : ∀ (j : Nat) t v, Tryz.f7.params[j]? = some t -> args[j]? = some v -> Value.okWide Tryz.prog W .any base t v := arC
  have ap6 := lL
  obtain ⟨p, q, EV, ap5, rfl, aaJ, dT⟩ := lL
  have dO : DataW.TrodAll enc Tryz.prog W 0 (fun _ => true) true Tryz.f7.params.toList args.toList eh p := EV
  rw [Tryz.params7] at dO lW dh
  obtain ⟨v0, avK, d0, auX, asA, ny, eG, rfl, rfl, bX, aj⟩ := trodAll_cons dO
  obtain ⟨v1, avL, d1, auY, gD, bh, rfl, rfl, rfl, aa, ar⟩ := trodAll_cons aj
  obtain ⟨rfl, rfl, rfl⟩ := trodAll_nil ar
  obtain rfl : args = #[v0, v1] := by cases args; simp_all
  obtain ⟨rfl, rfl⟩ := trodVars_none ap5
  have bk := bX
  have ar3 : ∀ x ∈ asA, x.block < W.heap.size := by obtain ⟨m, hm⟩ := bk; exact DataW.trod_lt m _ _ _ hm
  obtain ⟨me, z0, g0, ic⟩ := XV (cx := fV) (B := Qe) dI (Y6 H) (M := 0) (N := 20) (T := 26) (i := ⟨(.pair (.list (.pair (.int .u8) (.pair (.int .u8) (.pair (.int .u8) .unit)))) (.pair (.pair (.list (.pair (.int .u8) (.pair (.int .u8) (.pair (.int .u8) (.pair (.int .u8) (.pair (.int .u8) (.pair (.int .u8) .unit))))))) (.pair (.list (.pair (.int .u8) (.pair (.int .u8) (.pair (.int .u8) (.pair (.int .u8) (.pair (.int .u8) (.pair (.int .u8) .unit))))))) (.pair (.list (.pair (.int .u8) (.pair (.int .u8) (.pair (.int .u8) (.pair (.int .u8) (.pair (.int .u8) (.pair (.int .u8) .unit))))))) (.pair (.list (.pair (.int .u8) (.pair (.int .u8) (.pair (.int .u8) (.pair (.int .u8) (.pair (.int .u8) (.pair (.int .u8) .unit))))))) .unit)))) (.pair (.int .u8) .unit))), 0, [22, 24, 5], 128, false, false, false, []⟩) (by kernel_rfl) (by kernel_rfl) (fun e => by cases e) (lW 0 26 v0 rfl rfl) bX (Gj _ _ 0 26 d0 dh rfl rfl)
  have a1 := aa
  have ar4 : ∀ x ∈ gD, x.block < W.heap.size := by obtain ⟨m, hm⟩ := a1; exact DataW.trod_lt m _ _ _ hm
  obtain ⟨hq, aH, g1, s1⟩ := XV (cx := fV) (B := Qe) dI (Y6 H) (M := 0) (N := 20) (T := 77) (i := ⟨(.pair (.int .u8) (.pair (.int .u8) .unit)), 0, [5, 5], 2, false, true, false, []⟩) (by kernel_rfl) (by kernel_rfl) (fun e => by cases e) (lW 1 77 v1 rfl rfl) aa (Gj _ _ 1 77 d1 dh rfl rfl)
  refine (af2 W (agj lK) me hq v0 z0 v1 aH (ala rfl rfl me hq g0 g1)).mono fun e auN ⟨he, LH⟩ => ?_
  subst he
  exact ⟨_, rfl, _, _, _, [], _, [], ap6, trodAll_mk1 (shut_bool Tryz.underlying4 _), (trodAll_cons_mk (Below.trod Zj (by kernel_rfl) (of_decide_eq_true (by kernel_rfl)) bk LH ar3) (trodAll_cons_mk (Below.trod Zj (by kernel_rfl) (of_decide_eq_true (by kernel_rfl)) a1 LH ar4) trodAll_mk0)), rfl, LH.frame _, fun h => by cases h⟩
theorem over : Rows.treePartsRow.holds Tryz.pinned (OpenSpec.ofChange Rows.treePartsSpec) :=
  OpenClaim.holds_of_wide 7 Tryz.f7 rfl rfl rfl rfl rfl rfl rfl ⟨rfl, rfl, rfl, rfl, rfl⟩ rfl rfl rfl rfl rfl agh Tryz.func7 aoV
    (of_decide_eq_true (by kernel_rfl)) (by unfold Func.isWrapper; first | (rw [if_pos (by decide +kernel)]; kernel_rfl) | (rw [if_neg (by decide +kernel)]; exact ⟨rfl, rfl⟩))
    (fun os started H enc _ => afp os started H enc)
theorem proved : Rows.TreePartsSaid := over
end Go.Proofs.YtmmmpanpbphkdaaGreatDoor.treeParts
namespace Go.Proofs.YtmmmpanpbphkdaaGreatDoor
/-- The row, under a short name, for the claim. -/
theorem treeParts_holds : Rows.TreePartsSaid := treeParts.proved
end Go.Proofs.YtmmmpanpbphkdaaGreatDoor
#print axioms Go.Proofs.YtmmmpanpbphkdaaGreatDoor.treeParts_holds
/- TreeParts: the tied card over the row. Conditions: none beyond the given statement. -/
namespace Go.Proofs.YtmmmpanpbphkdaaGreatDoor.treeParts
open Go
theorem card : Claim7.holds Tryz.pinned (.plain (OpenSpec.ofChange Rows.treePartsSpec)) Rows.treePartsCard :=
  Claim7.holds_tied_plain_at .later [] [.data, .funcs, .pinned] true (true, "bcc27c8b76381c8b25d6cd06ea615f4ebd899e3b57b78e339fb0dd86132b7329") false
    proved (fun _ h => by cases h) (by as_aux_lemma => kernel_rfl) (fun _ h => by cases h) treeParts_row_tie rfl ⟨rfl, rfl⟩ (by as_aux_lemma => kernel_rfl) rfl
    (fun f fn aJ aaF => by
      obtain rfl : f = 7 := Option.some.inj ((show Tryz.prog.funcNamed "downspout/downspoutlaw12.TreeParts" = some 7 by as_aux_lemma => kernel_rfl).symm.trans aJ) |>.symm
      obtain rfl : fn = Tryz.f7 := (Option.some.inj (Tryz.func7.symm.trans aaF)).symm
      exact ⟨by as_aux_lemma => kernel_rfl, fun j t aU => by
        rw [Tryz.params7] at aU
        have hm : t ∈ [26, 77] := by simpa using Array.mem_of_getElem? aU
        have fq : ([26, 77].all fun u => !Tryz.prog.wantsStandIn u) = true := by as_aux_lemma => kernel_rfl
        exact (show Tryz.prog.wantsStandIn t = false by simpa using List.all_eq_true.1 fq t hm)⟩)
    (by as_aux_lemma => kernel_rfl)
end Go.Proofs.YtmmmpanpbphkdaaGreatDoor.treeParts
namespace Go.Proofs.YtmmmpanpbphkdaaGreatDoor
/-- The card, under a short name, for the claim. -/
theorem treePartsCard_holds : Rows.TreePartsCardSaid := treeParts.card
end Go.Proofs.YtmmmpanpbphkdaaGreatDoor
#print axioms Go.Proofs.YtmmmpanpbphkdaaGreatDoor.treePartsCard_holds
