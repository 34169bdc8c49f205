/-
  DERIVED. GIVEN WITH THE SEED: THE CARDS: each row of YtddbnkpkjnnggaaGreatDoorRows.lean that lists a variable, with what it lists TIED to the program's text (the seventh form; the later family's looks); each row that meets fmt, with fmt's text TOLD by the authors' own Lean function (tested against real Go, not proved from fmt's source: count such statements apart). THE CARD IS WHAT COUNTS. Prove the row's statement (the work); the ties are given (YtddbnkpkjnnggaaGreatDoorTie.lean); close each card by the builder's one call (the guide's Derived/Test/ToyasCard.lean, 'card_holds'). Laid BY PROGRAM, IN A SANDBOX (cutbox-door.mjs). By AI agents, Wed Nov 11 2026. No macro, syntax, notation, axiom, sorry.
-/
import Derived.Test.YtddbnkpkjnnggaaGreatDoorRows
import GoSem.ClaimSeven
namespace Go.Proofs.YtddbnkpkjnnggaaGreatDoor
namespace Rows

/-- THE TIED CARD OF 'downspoutlaw22.DecideMatchesReference'. -/
def decideMatchesReferenceCard : Claim7 := { stood := { row := decideMatchesReferenceRow, standIns := [], harness := (true, "a576715c4c59893c11dd73c910e9796007b4be0639604a619a08b5b8b7e33872"), looks := false }, kinds := [], alts := [], laidByText := true, laidKinds := [.data, .pinned], laidTests := true, laidLooks := .later }
def DecideMatchesReferenceCardSaid : Prop := Claim7.holds Tryz.pinned (.plain (OpenSpec.ofChange decideMatchesReferenceSpec)) decideMatchesReferenceCard

/-- THE TIED CARD OF 'downspoutlaw22.DecideDepths'. -/
def decideDepthsCard : Claim7 := { stood := { row := decideDepthsRow, standIns := [], harness := (true, "a576715c4c59893c11dd73c910e9796007b4be0639604a619a08b5b8b7e33872"), looks := false }, kinds := [], alts := [], laidByText := true, laidKinds := [.data, .pinned], laidTests := true, laidLooks := .later }
def DecideDepthsCardSaid : Prop := Claim7.holds Tryz.pinned (.plain (OpenSpec.ofChange decideDepthsSpec)) decideDepthsCard

/-- THE TIED CARD OF 'downspoutlaw22.DecideHolds'. -/
def decideHoldsCard : Claim7 := { stood := { row := decideHoldsRow, standIns := [], harness := (true, "a576715c4c59893c11dd73c910e9796007b4be0639604a619a08b5b8b7e33872"), looks := false }, kinds := [], alts := [], laidByText := true, laidKinds := [.data, .pinned], laidTests := true, laidLooks := .later }
def DecideHoldsCardSaid : Prop := Claim7.holds Tryz.pinned (.plain (OpenSpec.ofChange decideHoldsSpec)) decideHoldsCard

/-- THE TIED CARD OF 'downspoutlaw22.DecideRoom'. -/
def decideRoomCard : Claim7 := { stood := { row := decideRoomRow, standIns := [], harness := (true, "a576715c4c59893c11dd73c910e9796007b4be0639604a619a08b5b8b7e33872"), looks := false }, kinds := [], alts := [], laidByText := true, laidKinds := [.data, .pinned], laidTests := true, laidLooks := .later }
def DecideRoomCardSaid : Prop := Claim7.holds Tryz.pinned (.plain (OpenSpec.ofChange decideRoomSpec)) decideRoomCard

/-- THE TIED CARD OF 'downspoutlaw22.DecideLists'. -/
def decideListsCard : Claim7 := { stood := { row := decideListsRow, standIns := [], harness := (true, "a576715c4c59893c11dd73c910e9796007b4be0639604a619a08b5b8b7e33872"), looks := false }, kinds := [], alts := [], laidByText := true, laidKinds := [.data, .pinned], laidTests := true, laidLooks := .later }
def DecideListsCardSaid : Prop := Claim7.holds Tryz.pinned (.plain (OpenSpec.ofChange decideListsSpec)) decideListsCard

/-- THE TIED CARD OF 'downspoutlaw22.DecideRefuses'. -/
def decideRefusesCard : Claim7 := { stood := { row := decideRefusesRow, standIns := [], harness := (true, "a576715c4c59893c11dd73c910e9796007b4be0639604a619a08b5b8b7e33872"), looks := false }, kinds := [], alts := [], laidByText := true, laidKinds := [.data, .pinned], laidTests := true, laidLooks := .later }
def DecideRefusesCardSaid : Prop := Claim7.holds Tryz.pinned (.plain (OpenSpec.ofChange decideRefusesSpec)) decideRefusesCard

/-- THE TIED CARD OF 'downspoutlaw22.DecideTruth'. -/
def decideTruthCard : Claim7 := { stood := { row := decideTruthRow, standIns := [], harness := (true, "a576715c4c59893c11dd73c910e9796007b4be0639604a619a08b5b8b7e33872"), looks := false }, kinds := [], alts := [], laidByText := true, laidKinds := [.data, .pinned], laidTests := true, laidLooks := .later }
def DecideTruthCardSaid : Prop := Claim7.holds Tryz.pinned (.plain (OpenSpec.ofChange decideTruthSpec)) decideTruthCard

/-- THE SECOND FORM's CARD OF 'downspoutlaw22.DecideMatchesReference'. -/
def decideMatchesReferenceUptoCard : Claim7 := { stood := { row := decideMatchesReferenceUptoRow, standIns := [], harness := (true, "a576715c4c59893c11dd73c910e9796007b4be0639604a619a08b5b8b7e33872"), looks := false }, kinds := [], alts := [], laidByText := true, laidKinds := [.data, .pinned], laidTests := true, laidLooks := .later }
def DecideMatchesReferenceUptoCardSaid : Prop := Claim7.holds Tryz.pinned (.plain (OpenSpec.upto decideMatchesReferenceSpec)) decideMatchesReferenceUptoCard

/-- THE SECOND FORM's CARD OF 'downspoutlaw22.DecideDepths'. -/
def decideDepthsUptoCard : Claim7 := { stood := { row := decideDepthsUptoRow, standIns := [], harness := (true, "a576715c4c59893c11dd73c910e9796007b4be0639604a619a08b5b8b7e33872"), looks := false }, kinds := [], alts := [], laidByText := true, laidKinds := [.data, .pinned], laidTests := true, laidLooks := .later }
def DecideDepthsUptoCardSaid : Prop := Claim7.holds Tryz.pinned (.plain (OpenSpec.upto decideDepthsSpec)) decideDepthsUptoCard

/-- THE SECOND FORM's CARD OF 'downspoutlaw22.DecideHolds'. -/
def decideHoldsUptoCard : Claim7 := { stood := { row := decideHoldsUptoRow, standIns := [], harness := (true, "a576715c4c59893c11dd73c910e9796007b4be0639604a619a08b5b8b7e33872"), looks := false }, kinds := [], alts := [], laidByText := true, laidKinds := [.data, .pinned], laidTests := true, laidLooks := .later }
def DecideHoldsUptoCardSaid : Prop := Claim7.holds Tryz.pinned (.plain (OpenSpec.upto decideHoldsSpec)) decideHoldsUptoCard

/-- THE SECOND FORM's CARD OF 'downspoutlaw22.DecideRoom'. -/
def decideRoomUptoCard : Claim7 := { stood := { row := decideRoomUptoRow, standIns := [], harness := (true, "a576715c4c59893c11dd73c910e9796007b4be0639604a619a08b5b8b7e33872"), looks := false }, kinds := [], alts := [], laidByText := true, laidKinds := [.data, .pinned], laidTests := true, laidLooks := .later }
def DecideRoomUptoCardSaid : Prop := Claim7.holds Tryz.pinned (.plain (OpenSpec.upto decideRoomSpec)) decideRoomUptoCard

/-- THE SECOND FORM's CARD OF 'downspoutlaw22.DecideLists'. -/
def decideListsUptoCard : Claim7 := { stood := { row := decideListsUptoRow, standIns := [], harness := (true, "a576715c4c59893c11dd73c910e9796007b4be0639604a619a08b5b8b7e33872"), looks := false }, kinds := [], alts := [], laidByText := true, laidKinds := [.data, .pinned], laidTests := true, laidLooks := .later }
def DecideListsUptoCardSaid : Prop := Claim7.holds Tryz.pinned (.plain (OpenSpec.upto decideListsSpec)) decideListsUptoCard

/-- THE SECOND FORM's CARD OF 'downspoutlaw22.DecideRefuses'. -/
def decideRefusesUptoCard : Claim7 := { stood := { row := decideRefusesUptoRow, standIns := [], harness := (true, "a576715c4c59893c11dd73c910e9796007b4be0639604a619a08b5b8b7e33872"), looks := false }, kinds := [], alts := [], laidByText := true, laidKinds := [.data, .pinned], laidTests := true, laidLooks := .later }
def DecideRefusesUptoCardSaid : Prop := Claim7.holds Tryz.pinned (.plain (OpenSpec.upto decideRefusesSpec)) decideRefusesUptoCard

/-- THE SECOND FORM's CARD OF 'downspoutlaw22.DecideTruth'. -/
def decideTruthUptoCard : Claim7 := { stood := { row := decideTruthUptoRow, standIns := [], harness := (true, "a576715c4c59893c11dd73c910e9796007b4be0639604a619a08b5b8b7e33872"), looks := false }, kinds := [], alts := [], laidByText := true, laidKinds := [.data, .pinned], laidTests := true, laidLooks := .later }
def DecideTruthUptoCardSaid : Prop := Claim7.holds Tryz.pinned (.plain (OpenSpec.upto decideTruthSpec)) decideTruthUptoCard
end Rows
end Go.Proofs.YtddbnkpkjnnggaaGreatDoor
