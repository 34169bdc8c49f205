/- TreeReads: for every input the law returns true and leaves its arguments as they were. Conditions: none beyond the given statement. -/
import Derived.Test.YtmmmpanpbphkdaaGreatDoorRows
import Derived.Test.YtmmmpanpbphkdaaGreatDoorLC
import Derived.Test.YtmmmpanpbphkdaaGreatDoorE
import Derived.Test.YtmmmpanpbphkdaaGreatDoorP
import Derived.Test.YtmmmpanpbphkdaaGreatDoorXD
import Derived.LaidMore
import Derived.LaidHandle
import Derived.Stop.Joined
import Derived.Lib.LaidU8
import Derived.WalkKit
import Derived.ProofKit
import Derived.OpenShut
import Derived.ShutString
import Derived.ChangeOld
import Derived.Below
import Derived.SizedLaws
import Derived.Test.YtmmmpanpbphkdaaGreatDoorCards
import Derived.Test.YtmmmpanpbphkdaaGreatDoorTie
import Derived.SevenTiedAt
namespace Go.Proofs.YtmmmpanpbphkdaaGreatDoor.treeReads
open Go.ChangeShapes Go.WideShapes Go.ChangeAt Go.RowKit Go.X D
open Go.ChangeMaps (open_string shut_string)
set_option linter.unusedVariables false
theorem own : ownKnob Tryz.prog.godebug = none := by kernel_rfl
theorem L4 : laidOutB Tryz.prog = true := by kernel_rfl
def Ym : List (Nat × e5) -> aD -> Nat
  | [], _ => 0
  | p :: l, t => bif decide (p.2.ty = .list t) then p.2.bytes else Ym l t
abbrev HA : aD -> Nat := Ym fV.tab
theorem aqU (s : PF.S.ty.den) : PF.g s = wA s := by kernel_rfl
set_option maxRecDepth 100000 in
theorem ahE (w : World) (Aa : ∀ g, ja (Go.X.Told w) w g 0 ((Env.glob g).map lg)) (mi : (List ((Int) × (Int) × (Int) × Unit)) × ((List ((Int) × (Int) × (Int) × (Int) × (Int) × (Int) × Unit)) × (List ((Int) × (Int) × (Int) × (Int) × (Int) × (Int) × Unit)) × (List ((Int) × (Int) × (Int) × (Int) × (Int) × (Int) × Unit)) × (List ((Int) × (Int) × (Int) × (Int) × (Int) × (Int) × Unit)) × Unit) × (Int) × Unit) (hx : (Int) × (Int) × (Int) × (Int) × (Int) × (Int) × Unit) (jw : Int) (v0 : Value) (aj : cf (Go.X.Told w) w (.pair (.list (.pair (.int .u8) (.pair (.int .u8) (.pair (.int .u8) .unit)))) (.pair (.pair (.list (.pair (.int .u8) (.pair (.int .u8) (.pair (.int .u8) (.pair (.int .u8) (.pair (.int .u8) (.pair (.int .u8) .unit))))))) (.pair (.list (.pair (.int .u8) (.pair (.int .u8) (.pair (.int .u8) (.pair (.int .u8) (.pair (.int .u8) (.pair (.int .u8) .unit))))))) (.pair (.list (.pair (.int .u8) (.pair (.int .u8) (.pair (.int .u8) (.pair (.int .u8) (.pair (.int .u8) (.pair (.int .u8) .unit))))))) (.pair (.list (.pair (.int .u8) (.pair (.int .u8) (.pair (.int .u8) (.pair (.int .u8) (.pair (.int .u8) (.pair (.int .u8) .unit))))))) .unit)))) (.pair (.int .u8) .unit))) mi v0) (v1 : Value) (au : cf (Go.X.Told w) w (.pair (.int .u8) (.pair (.int .u8) (.pair (.int .u8) (.pair (.int .u8) (.pair (.int .u8) (.pair (.int .u8) .unit)))))) hx v1) (v2 : Value) (aL : cf (Go.X.Told w) w (.int .u8) jw v2) (h : wA (mi, hx, jw, ()) = some (true, ())) :
    Calls Tryz.prog 5 #[v0, v1, v2] w fun e w' => e = .returned (.bool true) /\ Below w.heap.size w w' := by
  have g : iL Tryz.prog 5 [.dat (.pair (.list (.pair (.int .u8) (.pair (.int .u8) (.pair (.int .u8) .unit)))) (.pair (.pair (.list (.pair (.int .u8) (.pair (.int .u8) (.pair (.int .u8) (.pair (.int .u8) (.pair (.int .u8) (.pair (.int .u8) .unit))))))) (.pair (.list (.pair (.int .u8) (.pair (.int .u8) (.pair (.int .u8) (.pair (.int .u8) (.pair (.int .u8) (.pair (.int .u8) .unit))))))) (.pair (.list (.pair (.int .u8) (.pair (.int .u8) (.pair (.int .u8) (.pair (.int .u8) (.pair (.int .u8) (.pair (.int .u8) .unit))))))) (.pair (.list (.pair (.int .u8) (.pair (.int .u8) (.pair (.int .u8) (.pair (.int .u8) (.pair (.int .u8) (.pair (.int .u8) .unit))))))) .unit)))) (.pair (.int .u8) .unit))) mi, .dat (.pair (.int .u8) (.pair (.int .u8) (.pair (.int .u8) (.pair (.int .u8) (.pair (.int .u8) (.pair (.int .u8) .unit)))))) hx, .dat (.int .u8) jw] [] (.dat .bool true) [] := ajl [.dat (.pair (.list (.pair (.int .u8) (.pair (.int .u8) (.pair (.int .u8) .unit)))) (.pair (.pair (.list (.pair (.int .u8) (.pair (.int .u8) (.pair (.int .u8) (.pair (.int .u8) (.pair (.int .u8) (.pair (.int .u8) .unit))))))) (.pair (.list (.pair (.int .u8) (.pair (.int .u8) (.pair (.int .u8) (.pair (.int .u8) (.pair (.int .u8) (.pair (.int .u8) .unit))))))) (.pair (.list (.pair (.int .u8) (.pair (.int .u8) (.pair (.int .u8) (.pair (.int .u8) (.pair (.int .u8) (.pair (.int .u8) .unit))))))) (.pair (.list (.pair (.int .u8) (.pair (.int .u8) (.pair (.int .u8) (.pair (.int .u8) (.pair (.int .u8) (.pair (.int .u8) .unit))))))) .unit)))) (.pair (.int .u8) .unit))) mi, .dat (.pair (.int .u8) (.pair (.int .u8) (.pair (.int .u8) (.pair (.int .u8) (.pair (.int .u8) (.pair (.int .u8) .unit)))))) hx, .dat (.int .u8) jw] [] (mi, hx, jw, ()) (true, ()) (by kernel_rfl) ((aqU (mi, hx, jw, ())).trans h)
  exact aqu Aa g rfl ⟨v0, _, rfl, aj, ⟨v1, _, rfl, au, ⟨v2, _, rfl, aL, rfl⟩⟩⟩
set_option maxRecDepth 100000 in
/-- The world that the doors lay, with the two listed tables. -/
noncomputable def at9 (os : Os) : World :=
  let gy := World.doorLaid Tryz.prog 5000 os
  let put (h : Array Obj) (g : Nat) (cs : Array Value) : Array Obj := h.modify g fun
    | .cells _ t frozen => .cells cs t frozen
    | o => o
  let aa := put gy.heap 2 (Lib.firstTab.map fun z => Value.int .u8 z).toArray
  let ad := put aa 3 ((List.range 16).flatMap fun i => [Value.int .u8 (Lib.accLo i), Value.int .u8 (Lib.accHi i)]).toArray
  { gy with heap := ad }
theorem ahV : Tryz.prog.globalNamed "downspout/trace.steps" = some 0 := by kernel_rfl
theorem ahW : (Tryz.prog.globals[0]?).map (·.type) = some 227 := by kernel_rfl
theorem agS : Tryz.prog.cellsOf 226 = 1 := by kernel_rfl
/-- What the row's condition says of the laid variable. -/
theorem ahU {W : World} (h : laidMetH Tryz.prog Rows.treeReadsRow.laid W) : ∀ g, ja (Go.X.Told W) W g 0 ((Env.glob g).map lg) := fun g => by
  by_cases bH : g = 0
  · subst bH
    exact api (h.funcs (.tail _ (.head _))) rfl ahV ahW (fs := Env.glob 0) Tryz.underlying227 Tryz.underlying226 agS (by kernel_rfl)
  · have e : Env.glob g = [] := by
      show (bif Nat.beq g 0 then _ else []) = []
      rw [show Nat.beq g 0 = false from u0 bH]
      rfl
    rw [e]
    exact fun i v h => by simp at h
/-- The door's own heap meets the condition. -/
theorem aqa (os : Os) (args : Array Value) : laidMetH Tryz.prog Rows.treeReadsRow.laid ((at9 os).forCall (fun _ _ => 0) ⟨#[], args, []⟩).memory :=
  laidMetH_of_parts3 (fuel := 8) (laidMet_of_run' 8 (by kernel_rfl) (by kernel_rfl)) (by kernel_rfl) (by kernel_rfl)
set_option maxRecDepth 100000 in
theorem ag1 (os : Os) (started : os.Started) (H : Type) (enc : TypeId × Value -> H) :
    ReturnsInHanded {} Tryz.checked os 5 .any (fun w args => (Rows.treeReadsSpec.pre enc Tryz.prog Tryz.f5 [] false w args /\ laidMetH Tryz.prog Rows.treeReadsRow.laid w) /\ sizedMet enc Tryz.prog Tryz.f5 (OpenSpec.ofChange Rows.treeReadsSpec) false w args) (Rows.treeReadsSpec.post enc Tryz.prog Tryz.f5 false true false false) := by
  refine returnsInHanded_of_change_and (C := Tryz.checked) (X := fun w _ => laidMetH Tryz.prog Rows.treeReadsRow.laid w) (fun _ _ _ bC h => laidMetH.of_heap bC h) own started (by kernel_rfl) Tryz.func5
    (ChangeSpec.witness_shaped (enc := enc) (C := Tryz.checked) (os := os) (X := fun w _ => laidMetH Tryz.prog Rows.treeReadsRow.laid w) false (at9 os) #[.agg #[.slice none 0 0, .slice none 0 0, .slice none 0 0, .slice none 0 0, .slice none 0 0, .int .u8 0], .agg #[.int .u8 0, .int .u8 0, .int .u8 0, .int .u8 0, .int .u8 0, .int .u8 0], .int .u8 0] 8 rfl (World.shaped_of_RefB (by kernel_rfl) (by kernel_rfl)) (by kernel_rfl) (by kernel_rfl) (by kernel_rfl) (aqa os _)) ?_
  intro W base args ei gs before asT hl zW asM lS _
  have di : (DataW.weightsEach Tryz.prog (Tryz.f5.params.toList ++ Rows.treeReadsSpec.plain.varTypes Tryz.prog) (ei ++ gs)).all (· <= reachBytes) = true := asM
  have lx : ∀ (j : Nat) t v, Tryz.f5.params[j]? = some t -> args[j]? = some v -> Value.okWide Tryz.prog W .any base t v := asT
  have arl := hl
  obtain ⟨p, q, Fl, ark, rfl, abQ, dT⟩ := hl
  have ec : DataW.TrodAll enc Tryz.prog W 0 (fun _ => true) true Tryz.f5.params.toList args.toList ei p := Fl
  rw [Tryz.params5] at ec lx di
  obtain ⟨v0, awU, d0, av5, atI, nE, eH, rfl, rfl, bY, aj⟩ := trodAll_cons ec
  obtain ⟨v1, awV, d1, av6, gG, bj, rfl, rfl, rfl, aa, au⟩ := trodAll_cons aj
  obtain ⟨v2, awW, d2, av7, gH, bU, rfl, rfl, rfl, ad, aL⟩ := trodAll_cons au
  obtain ⟨rfl, rfl, rfl⟩ := trodAll_nil aL
  obtain rfl : args = #[v0, v1, v2] := by cases args; simp_all
  obtain ⟨rfl, rfl⟩ := trodVars_none ark
  have bk := bY
  have atm : ∀ x ∈ atI, x.block < W.heap.size := by obtain ⟨m, hm⟩ := bk; exact DataW.trod_lt m _ _ _ hm
  obtain ⟨mi, z0, g0, im⟩ := K6 (cx := fV) (B := HA) dE (LM H) (M := 0) (N := 20) (T := 26) (i := ⟨(.pair (.list (.pair (.int .u8) (.pair (.int .u8) (.pair (.int .u8) .unit)))) (.pair (.pair (.list (.pair (.int .u8) (.pair (.int .u8) (.pair (.int .u8) (.pair (.int .u8) (.pair (.int .u8) (.pair (.int .u8) .unit))))))) (.pair (.list (.pair (.int .u8) (.pair (.int .u8) (.pair (.int .u8) (.pair (.int .u8) (.pair (.int .u8) (.pair (.int .u8) .unit))))))) (.pair (.list (.pair (.int .u8) (.pair (.int .u8) (.pair (.int .u8) (.pair (.int .u8) (.pair (.int .u8) (.pair (.int .u8) .unit))))))) (.pair (.list (.pair (.int .u8) (.pair (.int .u8) (.pair (.int .u8) (.pair (.int .u8) (.pair (.int .u8) (.pair (.int .u8) .unit))))))) .unit)))) (.pair (.int .u8) .unit))), 0, [22, 24, 5], 128, false, false, false, []⟩) (by kernel_rfl) (by kernel_rfl) (fun e => by cases e) (lx 0 26 v0 rfl rfl) bY (A0 _ _ 0 26 d0 di rfl rfl)
  have a1 := aa
  have atn : ∀ x ∈ gG, x.block < W.heap.size := by obtain ⟨m, hm⟩ := a1; exact DataW.trod_lt m _ _ _ hm
  obtain ⟨hx, aH, g1, s1⟩ := K6 (cx := fV) (B := HA) dE (LM H) (M := 0) (N := 20) (T := 28) (i := ⟨(.pair (.int .u8) (.pair (.int .u8) (.pair (.int .u8) (.pair (.int .u8) (.pair (.int .u8) (.pair (.int .u8) .unit)))))), 0, [5, 5, 5, 5, 5, 5], 6, false, true, false, []⟩) (by kernel_rfl) (by kernel_rfl) (fun e => by cases e) (lx 1 28 v1 rfl rfl) aa (A0 _ _ 1 28 d1 di rfl rfl)
  have k2 := ad
  have ato : ∀ x ∈ gH, x.block < W.heap.size := by obtain ⟨m, hm⟩ := k2; exact DataW.trod_lt m _ _ _ hm
  obtain ⟨jw, z2, g2, s2⟩ := K6 (cx := fV) (B := HA) dE (LM H) (M := 0) (N := 20) (T := 5) (i := ⟨(.int .u8), 0, [], 1, false, false, false, []⟩) (by kernel_rfl) (by kernel_rfl) (fun e => by cases e) (lx 2 5 v2 rfl rfl) ad (A0 _ _ 2 5 d2 di rfl rfl)
  refine (ahE W (ahU lS) mi hx jw v0 z0 v1 aH v2 z2 (am1 rfl rfl mi hx jw g0 g1 g2)).mono fun e avV ⟨he, Ey⟩ => ?_
  subst he
  exact ⟨_, rfl, _, _, _, [], _, [], arl, trodAll_mk1 (shut_bool Tryz.underlying4 _), (trodAll_cons_mk (Below.trod L4 (by kernel_rfl) (of_decide_eq_true (by kernel_rfl)) bk Ey atm) (trodAll_cons_mk (Below.trod L4 (by kernel_rfl) (of_decide_eq_true (by kernel_rfl)) a1 Ey atn) (trodAll_cons_mk (Below.trod L4 (by kernel_rfl) (of_decide_eq_true (by kernel_rfl)) k2 Ey ato) trodAll_mk0))), rfl, Ey.frame _, fun h => by cases h⟩
theorem over : Rows.treeReadsRow.holds Tryz.pinned (OpenSpec.ofChange Rows.treeReadsSpec) :=
  OpenClaim.holds_of_wide 5 Tryz.f5 rfl rfl rfl rfl rfl rfl rfl ⟨rfl, rfl, rfl, rfl, rfl⟩ rfl rfl rfl rfl rfl ahS Tryz.func5 agh
    (of_decide_eq_true (by kernel_rfl)) (by unfold Func.isWrapper; first | (rw [if_pos (by decide +kernel)]; kernel_rfl) | (rw [if_neg (by decide +kernel)]; exact ⟨rfl, rfl⟩))
    (fun os started H enc _ => ag1 os started H enc)
theorem proved : Rows.TreeReadsSaid := over
end Go.Proofs.YtmmmpanpbphkdaaGreatDoor.treeReads
namespace Go.Proofs.YtmmmpanpbphkdaaGreatDoor
/-- The row, under a short name, for the claim. -/
theorem treeReads_holds : Rows.TreeReadsSaid := treeReads.proved
end Go.Proofs.YtmmmpanpbphkdaaGreatDoor
#print axioms Go.Proofs.YtmmmpanpbphkdaaGreatDoor.treeReads_holds
/- TreeReads: the tied card over the row. Conditions: none beyond the given statement. -/
namespace Go.Proofs.YtmmmpanpbphkdaaGreatDoor.treeReads
open Go
theorem card : Claim7.holds Tryz.pinned (.plain (OpenSpec.ofChange Rows.treeReadsSpec)) Rows.treeReadsCard :=
  Claim7.holds_tied_plain_at .later [] [.data, .funcs, .pinned] true (true, "bcc27c8b76381c8b25d6cd06ea615f4ebd899e3b57b78e339fb0dd86132b7329") false
    proved (fun _ h => by cases h) (by as_aux_lemma => kernel_rfl) (fun _ h => by cases h) treeReads_row_tie rfl ⟨rfl, rfl⟩ (by as_aux_lemma => kernel_rfl) rfl
    (fun f fn aK abM => by
      obtain rfl : f = 5 := Option.some.inj ((show Tryz.prog.funcNamed "downspout/downspoutlaw12.TreeReads" = some 5 by as_aux_lemma => kernel_rfl).symm.trans aK) |>.symm
      obtain rfl : fn = Tryz.f5 := (Option.some.inj (Tryz.func5.symm.trans abM)).symm
      exact ⟨by as_aux_lemma => kernel_rfl, fun j t aU => by
        rw [Tryz.params5] at aU
        have hm : t ∈ [26, 28, 5] := by simpa using Array.mem_of_getElem? aU
        have eY : ([26, 28, 5].all fun u => !Tryz.prog.wantsStandIn u) = true := by as_aux_lemma => kernel_rfl
        exact (show Tryz.prog.wantsStandIn t = false by simpa using List.all_eq_true.1 eY t hm)⟩)
    (by as_aux_lemma => kernel_rfl)
end Go.Proofs.YtmmmpanpbphkdaaGreatDoor.treeReads
namespace Go.Proofs.YtmmmpanpbphkdaaGreatDoor
/-- The card, under a short name, for the claim. -/
theorem treeReadsCard_holds : Rows.TreeReadsCardSaid := treeReads.card
end Go.Proofs.YtmmmpanpbphkdaaGreatDoor
#print axioms Go.Proofs.YtmmmpanpbphkdaaGreatDoor.treeReadsCard_holds
