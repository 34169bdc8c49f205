/- DecideLists: the tied card over the row. Conditions: none beyond the given statement. -/
import Derived.Test.YtddbnkpkjnnggaaGreatDoorCards
import Derived.Test.YtddbnkpkjnnggaaGreatDoorTie
import Derived.Test.YtddbnkpkjnnggaaGreatDoorLD
import Derived.SevenTiedAt
namespace Go.Proofs.YtddbnkpkjnnggaaGreatDoor.decideLists
open Go
theorem card : Claim7.holds Tryz.pinned (.plain (OpenSpec.ofChange Rows.decideListsSpec)) Rows.decideListsCard :=
  Claim7.holds_tied_plain_at .later [] [.data, .pinned] true (true, "a576715c4c59893c11dd73c910e9796007b4be0639604a619a08b5b8b7e33872") false
    proved (fun _ h => by cases h) (by as_aux_lemma => kernel_rfl) (fun _ h => by cases h) decideLists_row_tie rfl ⟨rfl, rfl⟩ (by as_aux_lemma => kernel_rfl) rfl
    (fun f fn hf hfn => by
      obtain rfl : f = 7 := Option.some.inj ((show Tryz.prog.funcNamed "downspout/downspoutlaw22.DecideLists" = some 7 by as_aux_lemma => kernel_rfl).symm.trans hf) |>.symm
      obtain rfl : fn = Tryz.f7 := (Option.some.inj (Tryz.func7.symm.trans hfn)).symm
      exact ⟨by as_aux_lemma => kernel_rfl, fun j t ht => by
        rw [Tryz.params7] at ht
        have hm : t ∈ [28, 69] := by simpa using Array.mem_of_getElem? ht
        have hall : ([28, 69].all fun u => !Tryz.prog.wantsStandIn u) = true := by as_aux_lemma => kernel_rfl
        exact (show Tryz.prog.wantsStandIn t = false by simpa using List.all_eq_true.1 hall t hm)⟩)
    (by as_aux_lemma => kernel_rfl)
end Go.Proofs.YtddbnkpkjnnggaaGreatDoor.decideLists
namespace Go.Proofs.YtddbnkpkjnnggaaGreatDoor
/-- The card, under a short name, for the claim. -/
theorem decideListsCard_holds : Rows.DecideListsCardSaid := decideLists.card
end Go.Proofs.YtddbnkpkjnnggaaGreatDoor
#print axioms Go.Proofs.YtddbnkpkjnnggaaGreatDoor.decideListsCard_holds
