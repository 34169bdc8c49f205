/- TreeKeeps: for every input the law returns true and leaves its arguments as they were. Conditions: none beyond the given statement. -/
import Derived.Test.YtmmmpanpbphkdaaGreatDoorRows
import Derived.Test.YtmmmpanpbphkdaaGreatDoorLC
import Derived.Test.YtmmmpanpbphkdaaGreatDoorE
import Derived.Test.YtmmmpanpbphkdaaGreatDoorP
import Derived.Test.YtmmmpanpbphkdaaGreatDoorXD
import Derived.LaidMore
import Derived.LaidHandle
import Derived.Stop.Joined
import Derived.Lib.LaidU8
import Derived.WalkKit
import Derived.ProofKit
import Derived.OpenShut
import Derived.ShutString
import Derived.ChangeOld
import Derived.Below
import Derived.SizedLaws
import Derived.Test.YtmmmpanpbphkdaaGreatDoorCards
import Derived.Test.YtmmmpanpbphkdaaGreatDoorTie
import Derived.SevenTiedAt
namespace Go.Proofs.YtmmmpanpbphkdaaGreatDoor.treeKeeps
open Go.ChangeShapes Go.WideShapes Go.ChangeAt Go.RowKit Go.X D
open Go.ChangeMaps (open_string shut_string)
set_option linter.unusedVariables false
theorem own : ownKnob Tryz.prog.godebug = none := by kernel_rfl
theorem ady : laidOutB Tryz.prog = true := by kernel_rfl
def aaH : List (Nat × gl) -> aB -> Nat
  | [], _ => 0
  | p :: l, t => bif decide (p.2.ty = .list t) then p.2.bytes else aaH l t
abbrev TX : aB -> Nat := aaH hC.tab
theorem atP (d : S7.S.ty.den) : S7.g d = nl d := by kernel_rfl
set_option maxRecDepth 100000 in
theorem akU (w : World) (Cz : ∀ g, kB (Go.X.Told w) w g 0 ((Env.glob g).map mX)) (oc : (List ((Int) × (Int) × (Int) × Unit)) × ((List ((Int) × (Int) × (Int) × (Int) × (Int) × (Int) × Unit)) × (List ((Int) × (Int) × (Int) × (Int) × (Int) × (Int) × Unit)) × (List ((Int) × (Int) × (Int) × (Int) × (Int) × (Int) × Unit)) × (List ((Int) × (Int) × (Int) × (Int) × (Int) × (Int) × Unit)) × Unit) × (Int) × Unit) (iV : List ((Int) × (Int) × (Int) × (Int) × (Int) × (Int) × Unit)) (v0 : Value) (aa : cF (Go.X.Told w) w (.pair (.list (.pair (.int .u8) (.pair (.int .u8) (.pair (.int .u8) .unit)))) (.pair (.pair (.list (.pair (.int .u8) (.pair (.int .u8) (.pair (.int .u8) (.pair (.int .u8) (.pair (.int .u8) (.pair (.int .u8) .unit))))))) (.pair (.list (.pair (.int .u8) (.pair (.int .u8) (.pair (.int .u8) (.pair (.int .u8) (.pair (.int .u8) (.pair (.int .u8) .unit))))))) (.pair (.list (.pair (.int .u8) (.pair (.int .u8) (.pair (.int .u8) (.pair (.int .u8) (.pair (.int .u8) (.pair (.int .u8) .unit))))))) (.pair (.list (.pair (.int .u8) (.pair (.int .u8) (.pair (.int .u8) (.pair (.int .u8) (.pair (.int .u8) (.pair (.int .u8) .unit))))))) .unit)))) (.pair (.int .u8) .unit))) oc v0) (v1 : Value) (ag : cF (Go.X.Told w) w (.list (.pair (.int .u8) (.pair (.int .u8) (.pair (.int .u8) (.pair (.int .u8) (.pair (.int .u8) (.pair (.int .u8) .unit))))))) iV v1) (h : nl (oc, iV, ()) = some (true, ())) :
    Calls Tryz.prog 11 #[v0, v1] w fun e aq => e = .returned (.bool true) /\ Below w.heap.size w aq := by
  have g : kk Tryz.prog 11 [.dat (.pair (.list (.pair (.int .u8) (.pair (.int .u8) (.pair (.int .u8) .unit)))) (.pair (.pair (.list (.pair (.int .u8) (.pair (.int .u8) (.pair (.int .u8) (.pair (.int .u8) (.pair (.int .u8) (.pair (.int .u8) .unit))))))) (.pair (.list (.pair (.int .u8) (.pair (.int .u8) (.pair (.int .u8) (.pair (.int .u8) (.pair (.int .u8) (.pair (.int .u8) .unit))))))) (.pair (.list (.pair (.int .u8) (.pair (.int .u8) (.pair (.int .u8) (.pair (.int .u8) (.pair (.int .u8) (.pair (.int .u8) .unit))))))) (.pair (.list (.pair (.int .u8) (.pair (.int .u8) (.pair (.int .u8) (.pair (.int .u8) (.pair (.int .u8) (.pair (.int .u8) .unit))))))) .unit)))) (.pair (.int .u8) .unit))) oc, .dat (.list (.pair (.int .u8) (.pair (.int .u8) (.pair (.int .u8) (.pair (.int .u8) (.pair (.int .u8) (.pair (.int .u8) .unit))))))) iV] [] (.dat .bool true) [] := amI [.dat (.pair (.list (.pair (.int .u8) (.pair (.int .u8) (.pair (.int .u8) .unit)))) (.pair (.pair (.list (.pair (.int .u8) (.pair (.int .u8) (.pair (.int .u8) (.pair (.int .u8) (.pair (.int .u8) (.pair (.int .u8) .unit))))))) (.pair (.list (.pair (.int .u8) (.pair (.int .u8) (.pair (.int .u8) (.pair (.int .u8) (.pair (.int .u8) (.pair (.int .u8) .unit))))))) (.pair (.list (.pair (.int .u8) (.pair (.int .u8) (.pair (.int .u8) (.pair (.int .u8) (.pair (.int .u8) (.pair (.int .u8) .unit))))))) (.pair (.list (.pair (.int .u8) (.pair (.int .u8) (.pair (.int .u8) (.pair (.int .u8) (.pair (.int .u8) (.pair (.int .u8) .unit))))))) .unit)))) (.pair (.int .u8) .unit))) oc, .dat (.list (.pair (.int .u8) (.pair (.int .u8) (.pair (.int .u8) (.pair (.int .u8) (.pair (.int .u8) (.pair (.int .u8) .unit))))))) iV] [] (oc, iV, ()) (true, ()) (by kernel_rfl) ((atP (oc, iV, ())).trans h)
  exact ai9 Cz g rfl ⟨v0, _, rfl, aa, ⟨v1, _, rfl, ag, rfl⟩⟩
set_option maxRecDepth 100000 in
/-- The world that the doors lay, with the two listed tables. -/
noncomputable def ab6 (os : Os) : World :=
  let hZ := World.doorLaid Tryz.prog 5000 os
  let put (h : Array Obj) (g : Nat) (cs : Array Value) : Array Obj := h.modify g fun
    | .cells _ t frozen => .cells cs t frozen
    | o => o
  let q := put hZ.heap 2 (Lib.firstTab.map fun z => Value.int .u8 z).toArray
  let G := put q 3 ((List.range 16).flatMap fun i => [Value.int .u8 (Lib.accLo i), Value.int .u8 (Lib.accHi i)]).toArray
  { hZ with heap := G }
theorem akE : Tryz.prog.globalNamed "downspout/trace.steps" = some 0 := by kernel_rfl
theorem akF : (Tryz.prog.globals[0]?).map (·.type) = some 227 := by kernel_rfl
theorem akc : Tryz.prog.cellsOf 226 = 1 := by kernel_rfl
/-- What the row's condition says of the laid variable. -/
theorem akD {cP : World} (h : laidMetH Tryz.prog Rows.treeKeepsRow.laid cP) : ∀ g, kB (Go.X.Told cP) cP g 0 ((Env.glob g).map mX) := fun g => by
  by_cases bC : g = 0
  · subst bC
    exact asE (h.funcs (.tail _ (.head _))) rfl akE akF (dx := Env.glob 0) Tryz.underlying227 Tryz.underlying226 akc (by kernel_rfl)
  · have e : Env.glob g = [] := by
      show (bif Nat.beq g 0 then _ else []) = []
      rw [show Nat.beq g 0 = false from xp bC]
      rfl
    rw [e]
    exact fun i v h => by simp at h
/-- The door's own heap meets the condition. -/
theorem aiO (os : Os) (args : Array Value) : laidMetH Tryz.prog Rows.treeKeepsRow.laid ((ab6 os).forCall (fun _ _ => 0) ⟨#[], args, []⟩).memory :=
  laidMetH_of_parts3 (fuel := 8) (laidMet_of_run' 8 (by kernel_rfl) (by kernel_rfl)) (by kernel_rfl) (by kernel_rfl)
set_option maxRecDepth 100000 in
theorem ak1 (os : Os) (started : os.Started) (J : Type) (enc : TypeId × Value -> J) :
    ReturnsInHanded {} Tryz.checked os 11 .any (fun w args => (Rows.treeKeepsSpec.pre enc Tryz.prog Tryz.f11 [] false w args /\ laidMetH Tryz.prog Rows.treeKeepsRow.laid w) /\ sizedMet enc Tryz.prog Tryz.f11 (OpenSpec.ofChange Rows.treeKeepsSpec) false w args) (Rows.treeKeepsSpec.post enc Tryz.prog Tryz.f11 false true false false) := by
  refine returnsInHanded_of_change_and (C := Tryz.checked) (X := fun w _ => laidMetH Tryz.prog Rows.treeKeepsRow.laid w) (fun _ _ _ bg h => laidMetH.of_heap bg h) own started (by kernel_rfl) Tryz.func11
    (ChangeSpec.witness_shaped (enc := enc) (C := Tryz.checked) (os := os) (X := fun w _ => laidMetH Tryz.prog Rows.treeKeepsRow.laid w) false (ab6 os) #[.agg #[.slice none 0 0, .slice none 0 0, .slice none 0 0, .slice none 0 0, .slice none 0 0, .int .u8 0], .slice none 0 0] 8 rfl (World.shaped_of_RefB (by kernel_rfl) (by kernel_rfl)) (by kernel_rfl) (by kernel_rfl) (by kernel_rfl) (aiO os _)) ?_
  intro cP base args fi gs before av3 kr Cp avV nD _
  have ea : (DataW.weightsEach Tryz.prog (Tryz.f11.params.toList ++ Rows.treeKeepsSpec.plain.varTypes Tryz.prog) (fi ++ gs)).all (· <= reachBytes) = true := avV
  have yr : ∀ (j : Nat) t v, Tryz.f11.params[j]? = some t -> args[j]? = some v -> Value.okWide Tryz.prog cP .any base t v := av3
  have aum := kr
  obtain ⟨p, s, H8, aul, rfl, aeN, dK⟩ := kr
  have e4 : DataW.TrodAll enc Tryz.prog cP 0 (fun _ => true) true Tryz.f11.params.toList args.toList fi p := H8
  rw [Tryz.params11] at e4 yr ea
  obtain ⟨v0, az3, d0, azk, awT, pt, fE, rfl, rfl, bY, aa⟩ := trodAll_cons e4
  obtain ⟨v1, az4, d1, azl, fI, bw, rfl, rfl, rfl, q, ag⟩ := trodAll_cons aa
  obtain ⟨rfl, rfl, rfl⟩ := trodAll_nil ag
  obtain rfl : args = #[v0, v1] := by cases args; simp_all
  obtain ⟨rfl, rfl⟩ := trodVars_none aul
  have dq := bY
  have awu : ∀ x ∈ awT, x.block < cP.heap.size := by obtain ⟨m, hm⟩ := dq; exact DataW.trod_lt m _ _ _ hm
  obtain ⟨oc, z0, g0, iI⟩ := ace (cx := hC) (B := TX) eA (ado J) (dQ := 0) (a7 := 20) (T := 26) (i := ⟨(.pair (.list (.pair (.int .u8) (.pair (.int .u8) (.pair (.int .u8) .unit)))) (.pair (.pair (.list (.pair (.int .u8) (.pair (.int .u8) (.pair (.int .u8) (.pair (.int .u8) (.pair (.int .u8) (.pair (.int .u8) .unit))))))) (.pair (.list (.pair (.int .u8) (.pair (.int .u8) (.pair (.int .u8) (.pair (.int .u8) (.pair (.int .u8) (.pair (.int .u8) .unit))))))) (.pair (.list (.pair (.int .u8) (.pair (.int .u8) (.pair (.int .u8) (.pair (.int .u8) (.pair (.int .u8) (.pair (.int .u8) .unit))))))) (.pair (.list (.pair (.int .u8) (.pair (.int .u8) (.pair (.int .u8) (.pair (.int .u8) (.pair (.int .u8) (.pair (.int .u8) .unit))))))) .unit)))) (.pair (.int .u8) .unit))), 0, [22, 24, 5], 128, false, false, false, []⟩) (by kernel_rfl) (by kernel_rfl) (fun e => by cases e) (yr 0 26 v0 rfl rfl) bY (Jz _ _ 0 26 d0 ea rfl rfl)
  have bd := q
  have awv : ∀ x ∈ fI, x.block < cP.heap.size := by obtain ⟨m, hm⟩ := bd; exact DataW.trod_lt m _ _ _ hm
  obtain ⟨iV, aD, g1, s1⟩ := ace (cx := hC) (B := TX) eA (ado J) (dQ := 0) (a7 := 20) (T := 23) (i := ⟨(.list (.pair (.int .u8) (.pair (.int .u8) (.pair (.int .u8) (.pair (.int .u8) (.pair (.int .u8) (.pair (.int .u8) .unit))))))), 28, [], 6, false, false, false, []⟩) (by kernel_rfl) (by kernel_rfl) (fun e => by cases e) (yr 1 23 v1 rfl rfl) q (Jz _ _ 1 23 d1 ea rfl rfl)
  refine (akU cP (akD nD) oc iV v0 z0 v1 aD (apQ rfl rfl oc iV g0 g1)).mono fun e ay9 ⟨he, PZ⟩ => ?_
  subst he
  exact ⟨_, rfl, _, _, _, [], _, [], aum, trodAll_mk1 (shut_bool Tryz.underlying4 _), (trodAll_cons_mk (Below.trod ady (by kernel_rfl) (of_decide_eq_true (by kernel_rfl)) dq PZ awu) (trodAll_cons_mk (Below.trod ady (by kernel_rfl) (of_decide_eq_true (by kernel_rfl)) bd PZ awv) trodAll_mk0)), rfl, PZ.frame _, fun h => by cases h⟩
theorem over : Rows.treeKeepsRow.holds Tryz.pinned (OpenSpec.ofChange Rows.treeKeepsSpec) :=
  OpenClaim.holds_of_wide 11 Tryz.f11 rfl rfl rfl rfl rfl rfl rfl ⟨rfl, rfl, rfl, rfl, rfl⟩ rfl rfl rfl rfl rfl ali Tryz.func11 ajD
    (of_decide_eq_true (by kernel_rfl)) (by unfold Func.isWrapper; first | (rw [if_pos (by decide +kernel)]; kernel_rfl) | (rw [if_neg (by decide +kernel)]; exact ⟨rfl, rfl⟩))
    (fun os started J enc _ => ak1 os started J enc)
theorem proved : Rows.TreeKeepsSaid := over
end Go.Proofs.YtmmmpanpbphkdaaGreatDoor.treeKeeps
namespace Go.Proofs.YtmmmpanpbphkdaaGreatDoor
/-- The row, under a short name, for the claim. -/
theorem treeKeeps_holds : Rows.TreeKeepsSaid := treeKeeps.proved
end Go.Proofs.YtmmmpanpbphkdaaGreatDoor
#print axioms Go.Proofs.YtmmmpanpbphkdaaGreatDoor.treeKeeps_holds
/- TreeKeeps: the tied card over the row. Conditions: none beyond the given statement. -/
namespace Go.Proofs.YtmmmpanpbphkdaaGreatDoor.treeKeeps
open Go
theorem card : Claim7.holds Tryz.pinned (.plain (OpenSpec.ofChange Rows.treeKeepsSpec)) Rows.treeKeepsCard :=
  Claim7.holds_tied_plain_at .later [] [.data, .funcs, .pinned] true (true, "bcc27c8b76381c8b25d6cd06ea615f4ebd899e3b57b78e339fb0dd86132b7329") false
    proved (fun _ h => by cases h) (by as_aux_lemma => kernel_rfl) (fun _ h => by cases h) treeKeeps_row_tie rfl ⟨rfl, rfl⟩ (by as_aux_lemma => kernel_rfl) rfl
    (fun f fn aM aeJ => by
      obtain rfl : f = 11 := Option.some.inj ((show Tryz.prog.funcNamed "downspout/downspoutlaw12.TreeKeeps" = some 11 by as_aux_lemma => kernel_rfl).symm.trans aM) |>.symm
      obtain rfl : fn = Tryz.f11 := (Option.some.inj (Tryz.func11.symm.trans aeJ)).symm
      exact ⟨by as_aux_lemma => kernel_rfl, fun j t aW => by
        rw [Tryz.params11] at aW
        have hm : t ∈ [26, 23] := by simpa using Array.mem_of_getElem? aW
        have gd : ([26, 23].all fun ae => !Tryz.prog.wantsStandIn ae) = true := by as_aux_lemma => kernel_rfl
        exact (show Tryz.prog.wantsStandIn t = false by simpa using List.all_eq_true.1 gd t hm)⟩)
    (by as_aux_lemma => kernel_rfl)
end Go.Proofs.YtmmmpanpbphkdaaGreatDoor.treeKeeps
namespace Go.Proofs.YtmmmpanpbphkdaaGreatDoor
/-- The card, under a short name, for the claim. -/
theorem treeKeepsCard_holds : Rows.TreeKeepsCardSaid := treeKeeps.card
end Go.Proofs.YtmmmpanpbphkdaaGreatDoor
#print axioms Go.Proofs.YtmmmpanpbphkdaaGreatDoor.treeKeepsCard_holds
