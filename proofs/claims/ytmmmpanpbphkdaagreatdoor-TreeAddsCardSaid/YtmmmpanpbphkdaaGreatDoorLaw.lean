/- TreeAdds: for every input the law returns true and leaves its arguments as they were. Conditions: none beyond the given statement. -/
import Derived.Test.YtmmmpanpbphkdaaGreatDoorRows
import Derived.Test.YtmmmpanpbphkdaaGreatDoorLC
import Derived.Test.YtmmmpanpbphkdaaGreatDoorE
import Derived.Test.YtmmmpanpbphkdaaGreatDoorP
import Derived.Test.YtmmmpanpbphkdaaGreatDoorXD
import Derived.LaidMore
import Derived.LaidHandle
import Derived.Stop.Joined
import Derived.Lib.LaidU8
import Derived.WalkKit
import Derived.ProofKit
import Derived.OpenShut
import Derived.ShutString
import Derived.ChangeOld
import Derived.Below
import Derived.SizedLaws
import Derived.Test.YtmmmpanpbphkdaaGreatDoorCards
import Derived.Test.YtmmmpanpbphkdaaGreatDoorTie
import Derived.SevenTiedAt
namespace Go.Proofs.YtmmmpanpbphkdaaGreatDoor.treeAdds
open Go.ChangeShapes Go.WideShapes Go.ChangeAt Go.RowKit Go.X D
open Go.ChangeMaps (open_string shut_string)
set_option linter.unusedVariables false
theorem own : ownKnob Tryz.prog.godebug = none := by kernel_rfl
theorem PU : laidOutB Tryz.prog = true := by kernel_rfl
def aa1 : List (Nat × gq) -> az -> Nat
  | [], _ => 0
  | p :: l, t => bif decide (p.2.ty = .list t) then p.2.bytes else aa1 l t
abbrev KX : az -> Nat := aa1 hy.tab
theorem aup (d : Tp.S.ty.den) : Tp.g d = zd d := by kernel_rfl
set_option maxRecDepth 100000 in
theorem al4 (w : World) (CM : ∀ g, kz (Go.X.Told w) w g 0 ((Env.glob g).map mX)) (oa : (List ((Int) × (Int) × (Int) × Unit)) × ((List ((Int) × (Int) × (Int) × (Int) × (Int) × (Int) × Unit)) × (List ((Int) × (Int) × (Int) × (Int) × (Int) × (Int) × Unit)) × (List ((Int) × (Int) × (Int) × (Int) × (Int) × (Int) × Unit)) × (List ((Int) × (Int) × (Int) × (Int) × (Int) × (Int) × Unit)) × Unit) × (Int) × Unit) (iV : List ((Int) × (Int) × (Int) × (Int) × (Int) × (Int) × Unit)) (kW : (Int) × (List UInt8) × (List UInt8) × ((List UInt8) × (List UInt8) × Unit) × (List UInt8) × (List UInt8) × (Int) × Unit) (v0 : Value) (aa : cJ (Go.X.Told w) w (.pair (.list (.pair (.int .u8) (.pair (.int .u8) (.pair (.int .u8) .unit)))) (.pair (.pair (.list (.pair (.int .u8) (.pair (.int .u8) (.pair (.int .u8) (.pair (.int .u8) (.pair (.int .u8) (.pair (.int .u8) .unit))))))) (.pair (.list (.pair (.int .u8) (.pair (.int .u8) (.pair (.int .u8) (.pair (.int .u8) (.pair (.int .u8) (.pair (.int .u8) .unit))))))) (.pair (.list (.pair (.int .u8) (.pair (.int .u8) (.pair (.int .u8) (.pair (.int .u8) (.pair (.int .u8) (.pair (.int .u8) .unit))))))) (.pair (.list (.pair (.int .u8) (.pair (.int .u8) (.pair (.int .u8) (.pair (.int .u8) (.pair (.int .u8) (.pair (.int .u8) .unit))))))) .unit)))) (.pair (.int .u8) .unit))) oa v0) (v1 : Value) (ah : cJ (Go.X.Told w) w (.list (.pair (.int .u8) (.pair (.int .u8) (.pair (.int .u8) (.pair (.int .u8) (.pair (.int .u8) (.pair (.int .u8) .unit))))))) iV v1) (v2 : Value) (aS : cJ (Go.X.Told w) w (.pair (.int .i64) (.pair .str (.pair .str (.pair (.pair .str (.pair .str .unit)) (.pair .str (.pair .str (.pair (.int .i64) .unit))))))) kW v2) (h : zd (oa, iV, kW, ()) = some (true, ())) :
    Calls Tryz.prog 10 #[v0, v1, v2] w fun e aq => e = .returned (.bool true) /\ Below w.heap.size w aq := by
  have g : km Tryz.prog 10 [.dat (.pair (.list (.pair (.int .u8) (.pair (.int .u8) (.pair (.int .u8) .unit)))) (.pair (.pair (.list (.pair (.int .u8) (.pair (.int .u8) (.pair (.int .u8) (.pair (.int .u8) (.pair (.int .u8) (.pair (.int .u8) .unit))))))) (.pair (.list (.pair (.int .u8) (.pair (.int .u8) (.pair (.int .u8) (.pair (.int .u8) (.pair (.int .u8) (.pair (.int .u8) .unit))))))) (.pair (.list (.pair (.int .u8) (.pair (.int .u8) (.pair (.int .u8) (.pair (.int .u8) (.pair (.int .u8) (.pair (.int .u8) .unit))))))) (.pair (.list (.pair (.int .u8) (.pair (.int .u8) (.pair (.int .u8) (.pair (.int .u8) (.pair (.int .u8) (.pair (.int .u8) .unit))))))) .unit)))) (.pair (.int .u8) .unit))) oa, .dat (.list (.pair (.int .u8) (.pair (.int .u8) (.pair (.int .u8) (.pair (.int .u8) (.pair (.int .u8) (.pair (.int .u8) .unit))))))) iV, .dat (.pair (.int .i64) (.pair .str (.pair .str (.pair (.pair .str (.pair .str .unit)) (.pair .str (.pair .str (.pair (.int .i64) .unit))))))) kW] [] (.dat .bool true) [] := anA [.dat (.pair (.list (.pair (.int .u8) (.pair (.int .u8) (.pair (.int .u8) .unit)))) (.pair (.pair (.list (.pair (.int .u8) (.pair (.int .u8) (.pair (.int .u8) (.pair (.int .u8) (.pair (.int .u8) (.pair (.int .u8) .unit))))))) (.pair (.list (.pair (.int .u8) (.pair (.int .u8) (.pair (.int .u8) (.pair (.int .u8) (.pair (.int .u8) (.pair (.int .u8) .unit))))))) (.pair (.list (.pair (.int .u8) (.pair (.int .u8) (.pair (.int .u8) (.pair (.int .u8) (.pair (.int .u8) (.pair (.int .u8) .unit))))))) (.pair (.list (.pair (.int .u8) (.pair (.int .u8) (.pair (.int .u8) (.pair (.int .u8) (.pair (.int .u8) (.pair (.int .u8) .unit))))))) .unit)))) (.pair (.int .u8) .unit))) oa, .dat (.list (.pair (.int .u8) (.pair (.int .u8) (.pair (.int .u8) (.pair (.int .u8) (.pair (.int .u8) (.pair (.int .u8) .unit))))))) iV, .dat (.pair (.int .i64) (.pair .str (.pair .str (.pair (.pair .str (.pair .str .unit)) (.pair .str (.pair .str (.pair (.int .i64) .unit))))))) kW] [] (oa, iV, kW, ()) (true, ()) (by kernel_rfl) ((aup (oa, iV, kW, ())).trans h)
  exact ajd CM g rfl ⟨v0, _, rfl, aa, ⟨v1, _, rfl, ah, ⟨v2, _, rfl, aS, rfl⟩⟩⟩
set_option maxRecDepth 100000 in
/-- The world that the doors lay, with the two listed tables. -/
noncomputable def acu (os : Os) : World :=
  let hX := World.doorLaid Tryz.prog 5000 os
  let put (h : Array Obj) (g : Nat) (cs : Array Value) : Array Obj := h.modify g fun
    | .cells _ t frozen => .cells cs t frozen
    | o => o
  let q := put hX.heap 2 (Lib.firstTab.map fun z => Value.int .u8 z).toArray
  let G := put q 3 ((List.range 16).flatMap fun i => [Value.int .u8 (Lib.accLo i), Value.int .u8 (Lib.accHi i)]).toArray
  { hX with heap := G }
theorem alx : Tryz.prog.globalNamed "downspout/trace.steps" = some 0 := by kernel_rfl
theorem aly : (Tryz.prog.globals[0]?).map (·.type) = some 227 := by kernel_rfl
theorem alQ : Tryz.prog.cellsOf 226 = 1 := by kernel_rfl
/-- What the row's condition says of the laid variable. -/
theorem alw {cU : World} (h : laidMetH Tryz.prog Rows.treeAddsRow.laid cU) : ∀ g, kz (Go.X.Told cU) cU g 0 ((Env.glob g).map mX) := fun g => by
  by_cases bB : g = 0
  · subst bB
    exact atN (h.funcs (.tail _ (.head _))) rfl alx aly (dz := Env.glob 0) Tryz.underlying227 Tryz.underlying226 alQ (by kernel_rfl)
  · have e : Env.glob g = [] := by
      show (bif Nat.beq g 0 then _ else []) = []
      rw [show Nat.beq g 0 = false from xC bB]
      rfl
    rw [e]
    exact fun i v h => by simp at h
/-- The door's own heap meets the condition. -/
theorem akh (os : Os) (args : Array Value) : laidMetH Tryz.prog Rows.treeAddsRow.laid ((acu os).forCall (fun _ _ => 0) ⟨#[], args, []⟩).memory :=
  laidMetH_of_parts3 (fuel := 8) (laidMet_of_run' 8 (by kernel_rfl) (by kernel_rfl)) (by kernel_rfl) (by kernel_rfl)
set_option maxRecDepth 100000 in
theorem a31 (os : Os) (started : os.Started) (J : Type) (enc : TypeId × Value -> J) :
    ReturnsInHanded {} Tryz.checked os 10 .any (fun w args => (Rows.treeAddsSpec.pre enc Tryz.prog Tryz.f10 [] false w args /\ laidMetH Tryz.prog Rows.treeAddsRow.laid w) /\ sizedMet enc Tryz.prog Tryz.f10 (OpenSpec.ofChange Rows.treeAddsSpec) false w args) (Rows.treeAddsSpec.post enc Tryz.prog Tryz.f10 false true false false) := by
  refine returnsInHanded_of_change_and (C := Tryz.checked) (X := fun w _ => laidMetH Tryz.prog Rows.treeAddsRow.laid w) (fun _ _ _ bg h => laidMetH.of_heap bg h) own started (by kernel_rfl) Tryz.func10
    (ChangeSpec.witness_shaped (enc := enc) (C := Tryz.checked) (os := os) (X := fun w _ => laidMetH Tryz.prog Rows.treeAddsRow.laid w) false (acu os) #[.agg #[.slice none 0 0, .slice none 0 0, .slice none 0 0, .slice none 0 0, .slice none 0 0, .int .u8 0], .slice none 0 0, .agg #[.int .i64 0, .string ByteArray.empty, .string ByteArray.empty, .string ByteArray.empty, .string ByteArray.empty, .string ByteArray.empty, .string ByteArray.empty, .int .i64 0]] 8 rfl (World.shaped_of_RefB (by kernel_rfl) (by kernel_rfl)) (by kernel_rfl) (by kernel_rfl) (by kernel_rfl) (akh os _)) ?_
  intro cU base args fi gs before awz kr CC awr nE _
  have eb : (DataW.weightsEach Tryz.prog (Tryz.f10.params.toList ++ Rows.treeAddsSpec.plain.varTypes Tryz.prog) (fi ++ gs)).all (· <= reachBytes) = true := awr
  have vF : ∀ (j : Nat) t v, Tryz.f10.params[j]? = some t -> args[j]? = some v -> Value.okWide Tryz.prog cU .any base t v := awz
  have auT := kr
  obtain ⟨p, s, Iz, auS, rfl, afg, dL⟩ := kr
  have e6 : DataW.TrodAll enc Tryz.prog cU 0 (fun _ => true) true Tryz.f10.params.toList args.toList fi p := Iz
  rw [Tryz.params10] at e6 vF eb
  obtain ⟨v0, aAw, d0, azO, axq, pz, fF, rfl, rfl, bW, aa⟩ := trodAll_cons e6
  obtain ⟨v1, aAx, d1, azP, fJ, bq, rfl, rfl, rfl, q, ah⟩ := trodAll_cons aa
  obtain ⟨v2, aAy, d2, azQ, fT, bU, rfl, rfl, rfl, G, aS⟩ := trodAll_cons ah
  obtain ⟨rfl, rfl, rfl⟩ := trodAll_nil aS
  obtain rfl : args = #[v0, v1, v2] := by cases args; simp_all
  obtain ⟨rfl, rfl⟩ := trodVars_none auS
  have dp := bW
  have awZ : ∀ x ∈ axq, x.block < cU.heap.size := by obtain ⟨m, hm⟩ := dp; exact DataW.trod_lt m _ _ _ hm
  obtain ⟨oa, z0, g0, iT⟩ := O3 (cx := hy) (B := KX) eB (PA J) (dP := 0) (a7 := 20) (T := 26) (i := ⟨(.pair (.list (.pair (.int .u8) (.pair (.int .u8) (.pair (.int .u8) .unit)))) (.pair (.pair (.list (.pair (.int .u8) (.pair (.int .u8) (.pair (.int .u8) (.pair (.int .u8) (.pair (.int .u8) (.pair (.int .u8) .unit))))))) (.pair (.list (.pair (.int .u8) (.pair (.int .u8) (.pair (.int .u8) (.pair (.int .u8) (.pair (.int .u8) (.pair (.int .u8) .unit))))))) (.pair (.list (.pair (.int .u8) (.pair (.int .u8) (.pair (.int .u8) (.pair (.int .u8) (.pair (.int .u8) (.pair (.int .u8) .unit))))))) (.pair (.list (.pair (.int .u8) (.pair (.int .u8) (.pair (.int .u8) (.pair (.int .u8) (.pair (.int .u8) (.pair (.int .u8) .unit))))))) .unit)))) (.pair (.int .u8) .unit))), 0, [22, 24, 5], 128, false, false, false, []⟩) (by kernel_rfl) (by kernel_rfl) (fun e => by cases e) (vF 0 26 v0 rfl rfl) bW (DI _ _ 0 26 d0 eb rfl rfl)
  have bf := q
  have aw0 : ∀ x ∈ fJ, x.block < cU.heap.size := by obtain ⟨m, hm⟩ := bf; exact DataW.trod_lt m _ _ _ hm
  obtain ⟨iV, aF, g1, s1⟩ := O3 (cx := hy) (B := KX) eB (PA J) (dP := 0) (a7 := 20) (T := 23) (i := ⟨(.list (.pair (.int .u8) (.pair (.int .u8) (.pair (.int .u8) (.pair (.int .u8) (.pair (.int .u8) (.pair (.int .u8) .unit))))))), 28, [], 6, false, false, false, []⟩) (by kernel_rfl) (by kernel_rfl) (fun e => by cases e) (vF 1 23 v1 rfl rfl) q (DI _ _ 1 23 d1 eb rfl rfl)
  have a6 := G
  have aw1 : ∀ x ∈ fT, x.block < cU.heap.size := by obtain ⟨m, hm⟩ := a6; exact DataW.trod_lt m _ _ _ hm
  obtain ⟨kW, z2, g2, s2⟩ := O3 (cx := hy) (B := KX) eB (PA J) (dP := 0) (a7 := 20) (T := 41) (i := ⟨(.pair (.int .i64) (.pair .str (.pair .str (.pair (.pair .str (.pair .str .unit)) (.pair .str (.pair .str (.pair (.int .i64) .unit))))))), 0, [3, 9, 9, 39, 9, 9, 3], 112, true, false, false, []⟩) (by kernel_rfl) (by kernel_rfl) (fun e => by cases e) (vF 2 41 v2 rfl rfl) G (DI _ _ 2 41 d2 eb rfl rfl)
  refine (al4 cU (alw nE) oa iV kW v0 z0 v1 aF v2 z2 (arx rfl rfl oa iV kW g0 g1 g2)).mono fun e azE ⟨he, HD⟩ => ?_
  subst he
  exact ⟨_, rfl, _, _, _, [], _, [], auT, trodAll_mk1 (shut_bool Tryz.underlying4 _), (trodAll_cons_mk (Below.trod PU (by kernel_rfl) (of_decide_eq_true (by kernel_rfl)) dp HD awZ) (trodAll_cons_mk (Below.trod PU (by kernel_rfl) (of_decide_eq_true (by kernel_rfl)) bf HD aw0) (trodAll_cons_mk (Below.trod PU (by kernel_rfl) (of_decide_eq_true (by kernel_rfl)) a6 HD aw1) trodAll_mk0))), rfl, HD.frame _, fun h => by cases h⟩
theorem over : Rows.treeAddsRow.holds Tryz.pinned (OpenSpec.ofChange Rows.treeAddsSpec) :=
  OpenClaim.holds_of_wide 10 Tryz.f10 rfl rfl rfl rfl rfl rfl rfl ⟨rfl, rfl, rfl, rfl, rfl⟩ rfl rfl rfl rfl rfl als Tryz.func10 ak6
    (of_decide_eq_true (by kernel_rfl)) (by unfold Func.isWrapper; first | (rw [if_pos (by decide +kernel)]; kernel_rfl) | (rw [if_neg (by decide +kernel)]; exact ⟨rfl, rfl⟩))
    (fun os started J enc _ => a31 os started J enc)
theorem proved : Rows.TreeAddsSaid := over
end Go.Proofs.YtmmmpanpbphkdaaGreatDoor.treeAdds
namespace Go.Proofs.YtmmmpanpbphkdaaGreatDoor
/-- The row, under a short name, for the claim. -/
theorem treeAdds_holds : Rows.TreeAddsSaid := treeAdds.proved
end Go.Proofs.YtmmmpanpbphkdaaGreatDoor
#print axioms Go.Proofs.YtmmmpanpbphkdaaGreatDoor.treeAdds_holds
/- TreeAdds: the tied card over the row. Conditions: none beyond the given statement. -/
namespace Go.Proofs.YtmmmpanpbphkdaaGreatDoor.treeAdds
open Go
theorem card : Claim7.holds Tryz.pinned (.plain (OpenSpec.ofChange Rows.treeAddsSpec)) Rows.treeAddsCard :=
  Claim7.holds_tied_plain_at .later [] [.data, .funcs, .pinned] true (true, "bcc27c8b76381c8b25d6cd06ea615f4ebd899e3b57b78e339fb0dd86132b7329") false
    proved (fun _ h => by cases h) (by as_aux_lemma => kernel_rfl) (fun _ h => by cases h) treeAdds_row_tie rfl ⟨rfl, rfl⟩ (by as_aux_lemma => kernel_rfl) rfl
    (fun f fn aM afc => by
      obtain rfl : f = 10 := Option.some.inj ((show Tryz.prog.funcNamed "downspout/downspoutlaw12.TreeAdds" = some 10 by as_aux_lemma => kernel_rfl).symm.trans aM) |>.symm
      obtain rfl : fn = Tryz.f10 := (Option.some.inj (Tryz.func10.symm.trans afc)).symm
      exact ⟨by as_aux_lemma => kernel_rfl, fun j t aX => by
        rw [Tryz.params10] at aX
        have hm : t ∈ [26, 23, 41] := by simpa using Array.mem_of_getElem? aX
        have fQ : ([26, 23, 41].all fun ae => !Tryz.prog.wantsStandIn ae) = true := by as_aux_lemma => kernel_rfl
        exact (show Tryz.prog.wantsStandIn t = false by simpa using List.all_eq_true.1 fQ t hm)⟩)
    (by as_aux_lemma => kernel_rfl)
end Go.Proofs.YtmmmpanpbphkdaaGreatDoor.treeAdds
namespace Go.Proofs.YtmmmpanpbphkdaaGreatDoor
/-- The card, under a short name, for the claim. -/
theorem treeAddsCard_holds : Rows.TreeAddsCardSaid := treeAdds.card
end Go.Proofs.YtmmmpanpbphkdaaGreatDoor
#print axioms Go.Proofs.YtmmmpanpbphkdaaGreatDoor.treeAddsCard_holds
