/-
  DERIVED. GIVEN WITH THE SEED: THE CARDS: each row of YtflbampalmnfaaaGreatDoorRows.lean that lists a variable, with what it lists TIED to the program's text (the seventh form; the later family's looks); each row that meets fmt, with fmt's text TOLD by the authors' own Lean function (tested against real Go, not proved from fmt's source: count such statements apart). THE CARD IS WHAT COUNTS. Prove the row's statement (the work); the ties are given (YtflbampalmnfaaaGreatDoorTie.lean); close each card by the builder's one call (the guide's Derived/Test/ToyasCard.lean, 'card_holds'). Laid BY PROGRAM, IN A SANDBOX (cutbox-door.mjs). By AI agents, Wed Nov 11 2026. No macro, syntax, notation, axiom, sorry.
-/
import Derived.Test.YtflbampalmnfaaaGreatDoorRows
import GoSem.ClaimSeven
namespace Go.Proofs.YtflbampalmnfaaaGreatDoor
namespace Rows

/-- THE TIED CARD OF 'downspoutlaw30.CostMatchesReference'. -/
def costMatchesReferenceCard : Claim7 := { stood := { row := costMatchesReferenceRow, standIns := [], harness := (true, "5a0f76986dafac9889f6cb079f6764e2c62003c12a3e643e73b15fa5954c1395"), looks := false }, kinds := [], alts := [], laidByText := true, laidKinds := [.funcs], laidTests := true, laidLooks := .later }
def CostMatchesReferenceCardSaid : Prop := Claim7.holds Tryz.pinned (.plain (OpenSpec.ofChange costMatchesReferenceSpec)) costMatchesReferenceCard

/-- THE TIED CARD OF 'downspoutlaw30.CostReads'. -/
def costReadsCard : Claim7 := { stood := { row := costReadsRow, standIns := [], harness := (true, "5a0f76986dafac9889f6cb079f6764e2c62003c12a3e643e73b15fa5954c1395"), looks := false }, kinds := [], alts := [], laidByText := true, laidKinds := [.funcs], laidTests := true, laidLooks := .later }
def CostReadsCardSaid : Prop := Claim7.holds Tryz.pinned (.plain (OpenSpec.ofChange costReadsSpec)) costReadsCard

/-- THE TIED CARD OF 'downspoutlaw30.CostAdds'. -/
def costAddsCard : Claim7 := { stood := { row := costAddsRow, standIns := [], harness := (true, "5a0f76986dafac9889f6cb079f6764e2c62003c12a3e643e73b15fa5954c1395"), looks := false }, kinds := [], alts := [], laidByText := true, laidKinds := [.funcs], laidTests := true, laidLooks := .later }
def CostAddsCardSaid : Prop := Claim7.holds Tryz.pinned (.plain (OpenSpec.ofChange costAddsSpec)) costAddsCard

/-- THE TIED CARD OF 'downspoutlaw12.TreeMatchesReference'. -/
def treeMatchesReferenceCard : Claim7 := { stood := { row := treeMatchesReferenceRow, standIns := [], harness := (true, "5a0f76986dafac9889f6cb079f6764e2c62003c12a3e643e73b15fa5954c1395"), looks := false }, kinds := [], alts := [], laidByText := true, laidKinds := [.data, .funcs, .pinned], laidTests := true, laidLooks := .later }
def TreeMatchesReferenceCardSaid : Prop := Claim7.holds Tryz.pinned (.plain (OpenSpec.ofChange treeMatchesReferenceSpec)) treeMatchesReferenceCard

/-- THE TIED CARD OF 'downspoutlaw12.TreeReads'. -/
def treeReadsCard : Claim7 := { stood := { row := treeReadsRow, standIns := [], harness := (true, "5a0f76986dafac9889f6cb079f6764e2c62003c12a3e643e73b15fa5954c1395"), looks := false }, kinds := [], alts := [], laidByText := true, laidKinds := [.data, .funcs, .pinned], laidTests := true, laidLooks := .later }
def TreeReadsCardSaid : Prop := Claim7.holds Tryz.pinned (.plain (OpenSpec.ofChange treeReadsSpec)) treeReadsCard

/-- THE TIED CARD OF 'downspoutlaw12.TreeCounts'. -/
def treeCountsCard : Claim7 := { stood := { row := treeCountsRow, standIns := [], harness := (true, "5a0f76986dafac9889f6cb079f6764e2c62003c12a3e643e73b15fa5954c1395"), looks := false }, kinds := [], alts := [], laidByText := true, laidKinds := [.data, .funcs, .pinned], laidTests := true, laidLooks := .later }
def TreeCountsCardSaid : Prop := Claim7.holds Tryz.pinned (.plain (OpenSpec.ofChange treeCountsSpec)) treeCountsCard

/-- THE TIED CARD OF 'downspoutlaw12.TreeParts'. -/
def treePartsCard : Claim7 := { stood := { row := treePartsRow, standIns := [], harness := (true, "5a0f76986dafac9889f6cb079f6764e2c62003c12a3e643e73b15fa5954c1395"), looks := false }, kinds := [], alts := [], laidByText := true, laidKinds := [.data, .funcs, .pinned], laidTests := true, laidLooks := .later }
def TreePartsCardSaid : Prop := Claim7.holds Tryz.pinned (.plain (OpenSpec.ofChange treePartsSpec)) treePartsCard

/-- THE TIED CARD OF 'downspoutlaw12.TreeLost'. -/
def treeLostCard : Claim7 := { stood := { row := treeLostRow, standIns := [], harness := (true, "5a0f76986dafac9889f6cb079f6764e2c62003c12a3e643e73b15fa5954c1395"), looks := false }, kinds := [], alts := [], laidByText := true, laidKinds := [.data, .funcs, .pinned], laidTests := true, laidLooks := .later }
def TreeLostCardSaid : Prop := Claim7.holds Tryz.pinned (.plain (OpenSpec.ofChange treeLostSpec)) treeLostCard

/-- THE SECOND FORM's CARD OF 'downspoutlaw30.CostMatchesReference'. -/
def costMatchesReferenceUptoCard : Claim7 := { stood := { row := costMatchesReferenceUptoRow, standIns := [], harness := (true, "5a0f76986dafac9889f6cb079f6764e2c62003c12a3e643e73b15fa5954c1395"), looks := false }, kinds := [], alts := [], laidByText := true, laidKinds := [.funcs], laidTests := true, laidLooks := .later }
def CostMatchesReferenceUptoCardSaid : Prop := Claim7.holds Tryz.pinned (.plain (OpenSpec.upto costMatchesReferenceSpec)) costMatchesReferenceUptoCard

/-- THE SECOND FORM's CARD OF 'downspoutlaw30.CostReads'. -/
def costReadsUptoCard : Claim7 := { stood := { row := costReadsUptoRow, standIns := [], harness := (true, "5a0f76986dafac9889f6cb079f6764e2c62003c12a3e643e73b15fa5954c1395"), looks := false }, kinds := [], alts := [], laidByText := true, laidKinds := [.funcs], laidTests := true, laidLooks := .later }
def CostReadsUptoCardSaid : Prop := Claim7.holds Tryz.pinned (.plain (OpenSpec.upto costReadsSpec)) costReadsUptoCard

/-- THE SECOND FORM's CARD OF 'downspoutlaw30.CostAdds'. -/
def costAddsUptoCard : Claim7 := { stood := { row := costAddsUptoRow, standIns := [], harness := (true, "5a0f76986dafac9889f6cb079f6764e2c62003c12a3e643e73b15fa5954c1395"), looks := false }, kinds := [], alts := [], laidByText := true, laidKinds := [.funcs], laidTests := true, laidLooks := .later }
def CostAddsUptoCardSaid : Prop := Claim7.holds Tryz.pinned (.plain (OpenSpec.upto costAddsSpec)) costAddsUptoCard

/-- THE SECOND FORM's CARD OF 'downspoutlaw12.TreeMatchesReference'. -/
def treeMatchesReferenceUptoCard : Claim7 := { stood := { row := treeMatchesReferenceUptoRow, standIns := [], harness := (true, "5a0f76986dafac9889f6cb079f6764e2c62003c12a3e643e73b15fa5954c1395"), looks := false }, kinds := [], alts := [], laidByText := true, laidKinds := [.data, .funcs, .pinned], laidTests := true, laidLooks := .later }
def TreeMatchesReferenceUptoCardSaid : Prop := Claim7.holds Tryz.pinned (.plain (OpenSpec.upto treeMatchesReferenceSpec)) treeMatchesReferenceUptoCard

/-- THE SECOND FORM's CARD OF 'downspoutlaw12.TreeReads'. -/
def treeReadsUptoCard : Claim7 := { stood := { row := treeReadsUptoRow, standIns := [], harness := (true, "5a0f76986dafac9889f6cb079f6764e2c62003c12a3e643e73b15fa5954c1395"), looks := false }, kinds := [], alts := [], laidByText := true, laidKinds := [.data, .funcs, .pinned], laidTests := true, laidLooks := .later }
def TreeReadsUptoCardSaid : Prop := Claim7.holds Tryz.pinned (.plain (OpenSpec.upto treeReadsSpec)) treeReadsUptoCard

/-- THE SECOND FORM's CARD OF 'downspoutlaw12.TreeCounts'. -/
def treeCountsUptoCard : Claim7 := { stood := { row := treeCountsUptoRow, standIns := [], harness := (true, "5a0f76986dafac9889f6cb079f6764e2c62003c12a3e643e73b15fa5954c1395"), looks := false }, kinds := [], alts := [], laidByText := true, laidKinds := [.data, .funcs, .pinned], laidTests := true, laidLooks := .later }
def TreeCountsUptoCardSaid : Prop := Claim7.holds Tryz.pinned (.plain (OpenSpec.upto treeCountsSpec)) treeCountsUptoCard

/-- THE SECOND FORM's CARD OF 'downspoutlaw12.TreeParts'. -/
def treePartsUptoCard : Claim7 := { stood := { row := treePartsUptoRow, standIns := [], harness := (true, "5a0f76986dafac9889f6cb079f6764e2c62003c12a3e643e73b15fa5954c1395"), looks := false }, kinds := [], alts := [], laidByText := true, laidKinds := [.data, .funcs, .pinned], laidTests := true, laidLooks := .later }
def TreePartsUptoCardSaid : Prop := Claim7.holds Tryz.pinned (.plain (OpenSpec.upto treePartsSpec)) treePartsUptoCard

/-- THE SECOND FORM's CARD OF 'downspoutlaw12.TreeLost'. -/
def treeLostUptoCard : Claim7 := { stood := { row := treeLostUptoRow, standIns := [], harness := (true, "5a0f76986dafac9889f6cb079f6764e2c62003c12a3e643e73b15fa5954c1395"), looks := false }, kinds := [], alts := [], laidByText := true, laidKinds := [.data, .funcs, .pinned], laidTests := true, laidLooks := .later }
def TreeLostUptoCardSaid : Prop := Claim7.holds Tryz.pinned (.plain (OpenSpec.upto treeLostSpec)) treeLostUptoCard
end Rows
end Go.Proofs.YtflbampalmnfaaaGreatDoor
