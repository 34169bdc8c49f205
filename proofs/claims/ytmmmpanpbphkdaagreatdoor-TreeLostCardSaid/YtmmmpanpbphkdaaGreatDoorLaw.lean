/- TreeLost: for every input the law returns true and leaves its arguments as they were. Conditions: none beyond the given statement. -/
import Derived.Test.YtmmmpanpbphkdaaGreatDoorRows
import Derived.Test.YtmmmpanpbphkdaaGreatDoorLC
import Derived.Test.YtmmmpanpbphkdaaGreatDoorE
import Derived.Test.YtmmmpanpbphkdaaGreatDoorP
import Derived.Test.YtmmmpanpbphkdaaGreatDoorXD
import Derived.LaidMore
import Derived.LaidHandle
import Derived.Stop.Joined
import Derived.Lib.LaidU8
import Derived.WalkKit
import Derived.ProofKit
import Derived.OpenShut
import Derived.ShutString
import Derived.ChangeOld
import Derived.Below
import Derived.SizedLaws
import Derived.Test.YtmmmpanpbphkdaaGreatDoorCards
import Derived.Test.YtmmmpanpbphkdaaGreatDoorTie
import Derived.SevenTiedAt
namespace Go.Proofs.YtmmmpanpbphkdaaGreatDoor.treeLost
open Go.ChangeShapes Go.WideShapes Go.ChangeAt Go.RowKit Go.X D
open Go.ChangeMaps (open_string shut_string)
set_option linter.unusedVariables false
theorem own : ownKnob Tryz.prog.godebug = none := by kernel_rfl
theorem O4 : laidOutB Tryz.prog = true := by kernel_rfl
def aao : List (Nat × gj) -> aB -> Nat
  | [], _ => 0
  | p :: l, t => bif decide (p.2.ty = .list t) then p.2.bytes else aao l t
abbrev Ke : aB -> Nat := aao hh.tab
theorem asW (d : SP.S.ty.den) : SP.g d = yK d := by kernel_rfl
set_option maxRecDepth 100000 in
theorem ake (w : World) (Cp : ∀ g, kv (Go.X.Told w) w g 0 ((Env.glob g).map mQ)) (nY : (List ((Int) × (Int) × (Int) × Unit)) × ((List ((Int) × (Int) × (Int) × (Int) × (Int) × (Int) × Unit)) × (List ((Int) × (Int) × (Int) × (Int) × (Int) × (Int) × Unit)) × (List ((Int) × (Int) × (Int) × (Int) × (Int) × (Int) × Unit)) × (List ((Int) × (Int) × (Int) × (Int) × (Int) × (Int) × Unit)) × Unit) × (Int) × Unit) (iO : (Int) × (Int) × Unit) (kS : (Int) × (Int) × (Int) × (Int) × (Int) × (Int) × Unit) (v0 : Value) (Q : cA (Go.X.Told w) w (.pair (.list (.pair (.int .u8) (.pair (.int .u8) (.pair (.int .u8) .unit)))) (.pair (.pair (.list (.pair (.int .u8) (.pair (.int .u8) (.pair (.int .u8) (.pair (.int .u8) (.pair (.int .u8) (.pair (.int .u8) .unit))))))) (.pair (.list (.pair (.int .u8) (.pair (.int .u8) (.pair (.int .u8) (.pair (.int .u8) (.pair (.int .u8) (.pair (.int .u8) .unit))))))) (.pair (.list (.pair (.int .u8) (.pair (.int .u8) (.pair (.int .u8) (.pair (.int .u8) (.pair (.int .u8) (.pair (.int .u8) .unit))))))) (.pair (.list (.pair (.int .u8) (.pair (.int .u8) (.pair (.int .u8) (.pair (.int .u8) (.pair (.int .u8) (.pair (.int .u8) .unit))))))) .unit)))) (.pair (.int .u8) .unit))) nY v0) (v1 : Value) (ah : cA (Go.X.Told w) w (.pair (.int .u8) (.pair (.int .u8) .unit)) iO v1) (v2 : Value) (aJ : cA (Go.X.Told w) w (.pair (.int .u8) (.pair (.int .u8) (.pair (.int .u8) (.pair (.int .u8) (.pair (.int .u8) (.pair (.int .u8) .unit)))))) kS v2) (h : yK (nY, iO, kS, ()) = some (true, ())) :
    Calls Tryz.prog 8 #[v0, v1, v2] w fun e ao => e = .returned (.bool true) /\ Below w.heap.size w ao := by
  have g : kh Tryz.prog 8 [.dat (.pair (.list (.pair (.int .u8) (.pair (.int .u8) (.pair (.int .u8) .unit)))) (.pair (.pair (.list (.pair (.int .u8) (.pair (.int .u8) (.pair (.int .u8) (.pair (.int .u8) (.pair (.int .u8) (.pair (.int .u8) .unit))))))) (.pair (.list (.pair (.int .u8) (.pair (.int .u8) (.pair (.int .u8) (.pair (.int .u8) (.pair (.int .u8) (.pair (.int .u8) .unit))))))) (.pair (.list (.pair (.int .u8) (.pair (.int .u8) (.pair (.int .u8) (.pair (.int .u8) (.pair (.int .u8) (.pair (.int .u8) .unit))))))) (.pair (.list (.pair (.int .u8) (.pair (.int .u8) (.pair (.int .u8) (.pair (.int .u8) (.pair (.int .u8) (.pair (.int .u8) .unit))))))) .unit)))) (.pair (.int .u8) .unit))) nY, .dat (.pair (.int .u8) (.pair (.int .u8) .unit)) iO, .dat (.pair (.int .u8) (.pair (.int .u8) (.pair (.int .u8) (.pair (.int .u8) (.pair (.int .u8) (.pair (.int .u8) .unit)))))) kS] [] (.dat .bool true) [] := alX [.dat (.pair (.list (.pair (.int .u8) (.pair (.int .u8) (.pair (.int .u8) .unit)))) (.pair (.pair (.list (.pair (.int .u8) (.pair (.int .u8) (.pair (.int .u8) (.pair (.int .u8) (.pair (.int .u8) (.pair (.int .u8) .unit))))))) (.pair (.list (.pair (.int .u8) (.pair (.int .u8) (.pair (.int .u8) (.pair (.int .u8) (.pair (.int .u8) (.pair (.int .u8) .unit))))))) (.pair (.list (.pair (.int .u8) (.pair (.int .u8) (.pair (.int .u8) (.pair (.int .u8) (.pair (.int .u8) (.pair (.int .u8) .unit))))))) (.pair (.list (.pair (.int .u8) (.pair (.int .u8) (.pair (.int .u8) (.pair (.int .u8) (.pair (.int .u8) (.pair (.int .u8) .unit))))))) .unit)))) (.pair (.int .u8) .unit))) nY, .dat (.pair (.int .u8) (.pair (.int .u8) .unit)) iO, .dat (.pair (.int .u8) (.pair (.int .u8) (.pair (.int .u8) (.pair (.int .u8) (.pair (.int .u8) (.pair (.int .u8) .unit)))))) kS] [] (nY, iO, kS, ()) (true, ()) (by kernel_rfl) ((asW (nY, iO, kS, ())).trans h)
  exact asz Cp g rfl ⟨v0, _, rfl, Q, ⟨v1, _, rfl, ah, ⟨v2, _, rfl, aJ, rfl⟩⟩⟩
set_option maxRecDepth 100000 in
/-- The world that the doors lay, with the two listed tables. -/
noncomputable def aa5 (os : Os) : World :=
  let hW := World.doorLaid Tryz.prog 5000 os
  let put (h : Array Obj) (g : Nat) (cs : Array Value) : Array Obj := h.modify g fun
    | .cells _ t frozen => .cells cs t frozen
    | o => o
  let s := put hW.heap 2 (Lib.firstTab.map fun z => Value.int .u8 z).toArray
  let E := put s 3 ((List.range 16).flatMap fun i => [Value.int .u8 (Lib.accLo i), Value.int .u8 (Lib.accHi i)]).toArray
  { hW with heap := E }
theorem ajw : Tryz.prog.globalNamed "downspout/trace.steps" = some 0 := by kernel_rfl
theorem ajx : (Tryz.prog.globals[0]?).map (·.type) = some 227 := by kernel_rfl
theorem ajR : Tryz.prog.cellsOf 226 = 1 := by kernel_rfl
/-- What the row's condition says of the laid variable. -/
theorem ajv {cr : World} (h : laidMetH Tryz.prog Rows.treeLostRow.laid cr) : ∀ g, kv (Go.X.Told cr) cr g 0 ((Env.glob g).map mQ) := fun g => by
  by_cases bu : g = 0
  · subst bu
    exact ars (h.funcs (.tail _ (.head _))) rfl ajw ajx (ct := Env.glob 0) Tryz.underlying227 Tryz.underlying226 ajR (by kernel_rfl)
  · have e : Env.glob g = [] := by
      show (bif Nat.beq g 0 then _ else []) = []
      rw [show Nat.beq g 0 = false from xb bu]
      rfl
    rw [e]
    exact fun i v h => by simp at h
/-- The door's own heap meets the condition. -/
theorem asc (os : Os) (args : Array Value) : laidMetH Tryz.prog Rows.treeLostRow.laid ((aa5 os).forCall (fun _ _ => 0) ⟨#[], args, []⟩).memory :=
  laidMetH_of_parts3 (fuel := 8) (laidMet_of_run' 8 (by kernel_rfl) (by kernel_rfl)) (by kernel_rfl) (by kernel_rfl)
set_option maxRecDepth 100000 in
theorem aj1 (os : Os) (started : os.Started) (H : Type) (enc : TypeId × Value -> H) :
    ReturnsInHanded {} Tryz.checked os 8 .any (fun w args => (Rows.treeLostSpec.pre enc Tryz.prog Tryz.f8 [] false w args /\ laidMetH Tryz.prog Rows.treeLostRow.laid w) /\ sizedMet enc Tryz.prog Tryz.f8 (OpenSpec.ofChange Rows.treeLostSpec) false w args) (Rows.treeLostSpec.post enc Tryz.prog Tryz.f8 false true false false) := by
  refine returnsInHanded_of_change_and (C := Tryz.checked) (X := fun w _ => laidMetH Tryz.prog Rows.treeLostRow.laid w) (fun _ _ _ bC h => laidMetH.of_heap bC h) own started (by kernel_rfl) Tryz.func8
    (ChangeSpec.witness_shaped (enc := enc) (C := Tryz.checked) (os := os) (X := fun w _ => laidMetH Tryz.prog Rows.treeLostRow.laid w) false (aa5 os) #[.agg #[.slice none 0 0, .slice none 0 0, .slice none 0 0, .slice none 0 0, .slice none 0 0, .int .u8 0], .agg #[.int .u8 0, .int .u8 0], .agg #[.int .u8 0, .int .u8 0, .int .u8 0, .int .u8 0, .int .u8 0, .int .u8 0]] 8 rfl (World.shaped_of_RefB (by kernel_rfl) (by kernel_rfl)) (by kernel_rfl) (by kernel_rfl) (by kernel_rfl) (asc os _)) ?_
  intro cr base args e6 gs before au3 hO Cg auV k9 _
  have dT : (DataW.weightsEach Tryz.prog (Tryz.f8.params.toList ++ Rows.treeLostSpec.plain.varTypes Tryz.prog) (e6 ++ gs)).all (· <= reachBytes) = true := auV
  have m1 : ∀ (j : Nat) t v, Tryz.f8.params[j]? = some t -> args[j]? = some v -> Value.okWide Tryz.prog cr .any base t v := au3
  have atq := hO
  obtain ⟨p, q, HL, atp, rfl, adW, eb⟩ := hO
  have eU : DataW.TrodAll enc Tryz.prog cr 0 (fun _ => true) true Tryz.f8.params.toList args.toList e6 p := HL
  rw [Tryz.params8] at eU m1 dT
  obtain ⟨v0, ay5, d0, ayk, avU, py, fA, rfl, rfl, b8, Q⟩ := trodAll_cons eU
  obtain ⟨v1, ay6, d1, ayl, fU, bj, rfl, rfl, rfl, s, ah⟩ := trodAll_cons Q
  obtain ⟨v2, ay7, d2, aym, fV, bG, rfl, rfl, rfl, E, aJ⟩ := trodAll_cons ah
  obtain ⟨rfl, rfl, rfl⟩ := trodAll_nil aJ
  obtain rfl : args = #[v0, v1, v2] := by cases args; simp_all
  obtain ⟨rfl, rfl⟩ := trodVars_none atp
  have bw := b8
  have avv : ∀ x ∈ avU, x.block < cr.heap.size := by obtain ⟨m, hm⟩ := bw; exact DataW.trod_lt m _ _ _ hm
  obtain ⟨nY, z0, g0, jP⟩ := N7 (cx := hh) (B := Ke) ev (OM H) (dI := 0) (aY := 20) (T := 26) (i := ⟨(.pair (.list (.pair (.int .u8) (.pair (.int .u8) (.pair (.int .u8) .unit)))) (.pair (.pair (.list (.pair (.int .u8) (.pair (.int .u8) (.pair (.int .u8) (.pair (.int .u8) (.pair (.int .u8) (.pair (.int .u8) .unit))))))) (.pair (.list (.pair (.int .u8) (.pair (.int .u8) (.pair (.int .u8) (.pair (.int .u8) (.pair (.int .u8) (.pair (.int .u8) .unit))))))) (.pair (.list (.pair (.int .u8) (.pair (.int .u8) (.pair (.int .u8) (.pair (.int .u8) (.pair (.int .u8) (.pair (.int .u8) .unit))))))) (.pair (.list (.pair (.int .u8) (.pair (.int .u8) (.pair (.int .u8) (.pair (.int .u8) (.pair (.int .u8) (.pair (.int .u8) .unit))))))) .unit)))) (.pair (.int .u8) .unit))), 0, [22, 24, 5], 128, false, false, false, []⟩) (by kernel_rfl) (by kernel_rfl) (fun e => by cases e) (m1 0 26 v0 rfl rfl) b8 (Dh _ _ 0 26 d0 dT rfl rfl)
  have bb := s
  have avw : ∀ x ∈ fU, x.block < cr.heap.size := by obtain ⟨m, hm⟩ := bb; exact DataW.trod_lt m _ _ _ hm
  obtain ⟨iO, aG, g1, s1⟩ := N7 (cx := hh) (B := Ke) ev (OM H) (dI := 0) (aY := 20) (T := 77) (i := ⟨(.pair (.int .u8) (.pair (.int .u8) .unit)), 0, [5, 5], 2, false, true, false, []⟩) (by kernel_rfl) (by kernel_rfl) (fun e => by cases e) (m1 1 77 v1 rfl rfl) s (Dh _ _ 1 77 d1 dT rfl rfl)
  have aU := E
  have avx : ∀ x ∈ fV, x.block < cr.heap.size := by obtain ⟨m, hm⟩ := aU; exact DataW.trod_lt m _ _ _ hm
  obtain ⟨kS, z2, g2, s2⟩ := N7 (cx := hh) (B := Ke) ev (OM H) (dI := 0) (aY := 20) (T := 28) (i := ⟨(.pair (.int .u8) (.pair (.int .u8) (.pair (.int .u8) (.pair (.int .u8) (.pair (.int .u8) (.pair (.int .u8) .unit)))))), 0, [5, 5, 5, 5, 5, 5], 6, false, true, false, []⟩) (by kernel_rfl) (by kernel_rfl) (fun e => by cases e) (m1 2 28 v2 rfl rfl) E (Dh _ _ 2 28 d2 dT rfl rfl)
  refine (ake cr (ajv k9) nY iO kS v0 z0 v1 aG v2 z2 (ap0 rfl rfl nY iO kS g0 g1 g2)).mono fun e aya ⟨he, GY⟩ => ?_
  subst he
  exact ⟨_, rfl, _, _, _, [], _, [], atq, trodAll_mk1 (shut_bool Tryz.underlying4 _), (trodAll_cons_mk (Below.trod O4 (by kernel_rfl) (of_decide_eq_true (by kernel_rfl)) bw GY avv) (trodAll_cons_mk (Below.trod O4 (by kernel_rfl) (of_decide_eq_true (by kernel_rfl)) bb GY avw) (trodAll_cons_mk (Below.trod O4 (by kernel_rfl) (of_decide_eq_true (by kernel_rfl)) aU GY avx) trodAll_mk0))), rfl, GY.frame _, fun h => by cases h⟩
theorem over : Rows.treeLostRow.holds Tryz.pinned (OpenSpec.ofChange Rows.treeLostSpec) :=
  OpenClaim.holds_of_wide 8 Tryz.f8 rfl rfl rfl rfl rfl rfl rfl ⟨rfl, rfl, rfl, rfl, rfl⟩ rfl rfl rfl rfl rfl ajs Tryz.func8 aiY
    (of_decide_eq_true (by kernel_rfl)) (by unfold Func.isWrapper; first | (rw [if_pos (by decide +kernel)]; kernel_rfl) | (rw [if_neg (by decide +kernel)]; exact ⟨rfl, rfl⟩))
    (fun os started H enc _ => aj1 os started H enc)
theorem proved : Rows.TreeLostSaid := over
end Go.Proofs.YtmmmpanpbphkdaaGreatDoor.treeLost
namespace Go.Proofs.YtmmmpanpbphkdaaGreatDoor
/-- The row, under a short name, for the claim. -/
theorem treeLost_holds : Rows.TreeLostSaid := treeLost.proved
end Go.Proofs.YtmmmpanpbphkdaaGreatDoor
#print axioms Go.Proofs.YtmmmpanpbphkdaaGreatDoor.treeLost_holds
/- TreeLost: the tied card over the row. Conditions: none beyond the given statement. -/
namespace Go.Proofs.YtmmmpanpbphkdaaGreatDoor.treeLost
open Go
theorem card : Claim7.holds Tryz.pinned (.plain (OpenSpec.ofChange Rows.treeLostSpec)) Rows.treeLostCard :=
  Claim7.holds_tied_plain_at .later [] [.data, .funcs, .pinned] true (true, "bcc27c8b76381c8b25d6cd06ea615f4ebd899e3b57b78e339fb0dd86132b7329") false
    proved (fun _ h => by cases h) (by as_aux_lemma => kernel_rfl) (fun _ h => by cases h) treeLost_row_tie rfl ⟨rfl, rfl⟩ (by as_aux_lemma => kernel_rfl) rfl
    (fun f fn aL adS => by
      obtain rfl : f = 8 := Option.some.inj ((show Tryz.prog.funcNamed "downspout/downspoutlaw12.TreeLost" = some 8 by as_aux_lemma => kernel_rfl).symm.trans aL) |>.symm
      obtain rfl : fn = Tryz.f8 := (Option.some.inj (Tryz.func8.symm.trans adS)).symm
      exact ⟨by as_aux_lemma => kernel_rfl, fun j t aT => by
        rw [Tryz.params8] at aT
        have hm : t ∈ [26, 77, 28] := by simpa using Array.mem_of_getElem? aT
        have gE : ([26, 77, 28].all fun ad => !Tryz.prog.wantsStandIn ad) = true := by as_aux_lemma => kernel_rfl
        exact (show Tryz.prog.wantsStandIn t = false by simpa using List.all_eq_true.1 gE t hm)⟩)
    (by as_aux_lemma => kernel_rfl)
end Go.Proofs.YtmmmpanpbphkdaaGreatDoor.treeLost
namespace Go.Proofs.YtmmmpanpbphkdaaGreatDoor
/-- The card, under a short name, for the claim. -/
theorem treeLostCard_holds : Rows.TreeLostCardSaid := treeLost.card
end Go.Proofs.YtmmmpanpbphkdaaGreatDoor
#print axioms Go.Proofs.YtmmmpanpbphkdaaGreatDoor.treeLostCard_holds
