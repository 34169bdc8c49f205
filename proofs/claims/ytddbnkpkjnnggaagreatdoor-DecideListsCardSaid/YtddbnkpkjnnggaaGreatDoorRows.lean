/-
  NARROWER THAN 'FOR EVERY INPUT', by the rows' own cells (each row's printed sentence says how): DecideMatchesReference: laid · DecideDepths: laid · DecideHolds: laid · DecideRoom: laid · DecideLists: laid · DecideRefuses: laid · DecideTruth: laid.
  DERIVED. THE GIVEN ROWS OF THIS SEAT. 7 by the template 'for every input the law returns true; each argument reads behind the call as it read before'; 0 by the template 'total and deterministic' (their statements: YtddbnkpkjnnggaaGreatDoorTotals.lean).
  GIVEN WITH THE SEED: the statements are not yours to turn. If you find one false, say at which input.
  Laid BY PROGRAM, IN A SANDBOX (cutbox-rows.mjs): the forced cells as the released guide's own fill.sh prints them over the translation 91642116638d06fe… (all of the seat's roots in one cut). By AI agents, Wed Nov 11 2026. No macro, syntax, notation, axiom, sorry.
-/
import Derived.Test.YtddbnkpkjnnggaaGreatDoorChecked
import GoSem.PinnedTables
import GoSem.Claim
import GoSem.ClaimJoined
import GoSem.ClaimMapViews
import Derived.JoinedTies
import Derived.KernelRfl
namespace Go.Proofs.YtddbnkpkjnnggaaGreatDoor
/- THE CELL 'sum', in the pinned program and in every row, IS THE sha256 OF THE DUMP (.gsa) THAT YtddbnkpkjnnggaaGreatDoorProg.lean LOADS. Nothing in Lean hashes anything: it is a label: what it is worth is what the hold of that sum in a sandbox is worth. -/
noncomputable def Tryz.pinned : Pinned := { name := "ytddbnkpkjnnggaagreatdoor", sum := "91642116638d06fe1628630cc1f0214784762c59a94b044213aa16a3a1e18583", checked := Tryz.checked }
namespace Rows
def none {H : Type} : Left H := { results := [], args := [] }

/- WHAT THE LISTED PACKAGE-LEVEL VARIABLES READ AS WHEN THE CALL BEGINS. Each datum BY PROGRAM (the guide's laid-datum.mjs) off the statement by which the dump's own 'gosem.cut.vars' lays the variable. In a bare row this is a premise. The card (YtddbnkpkjnnggaaGreatDoorCards.lean) ties it to the program's text. -/
def laid_unicode_utf8_acceptRanges {H : Type} : DataW H := .agg [.agg [.lit (.int .u8 128), .lit (.int .u8 191)], .agg [.lit (.int .u8 160), .lit (.int .u8 191)], .agg [.lit (.int .u8 128), .lit (.int .u8 159)], .agg [.lit (.int .u8 144), .lit (.int .u8 191)], .agg [.lit (.int .u8 128), .lit (.int .u8 143)], .agg [.lit (.int .u8 0), .lit (.int .u8 0)], .agg [.lit (.int .u8 0), .lit (.int .u8 0)], .agg [.lit (.int .u8 0), .lit (.int .u8 0)], .agg [.lit (.int .u8 0), .lit (.int .u8 0)], .agg [.lit (.int .u8 0), .lit (.int .u8 0)], .agg [.lit (.int .u8 0), .lit (.int .u8 0)], .agg [.lit (.int .u8 0), .lit (.int .u8 0)], .agg [.lit (.int .u8 0), .lit (.int .u8 0)], .agg [.lit (.int .u8 0), .lit (.int .u8 0)], .agg [.lit (.int .u8 0), .lit (.int .u8 0)], .agg [.lit (.int .u8 0), .lit (.int .u8 0)]]
/-- One of Go's own tables, pinned by name: the form's constant. -/
def laid_unicode_utf8_first : DataW Unit := Go.Pinned.utf8First

/-- 'downspoutlaw22.DecideMatchesReference': WHATEVER THE INPUT: true; the input reads as it did. -/
def decideMatchesReferenceSpec : ChangeSpec := { name := "decideMatchesReference", fn := fun _ => fun
  | [d1, d2, d3] => { results := [.lit (.bool true)], args := [d1, d2, d3] }
  | _ => none }
def decideMatchesReferenceRow : OpenClaim := { program := "ytddbnkpkjnnggaagreatdoor", sum := "91642116638d06fe1628630cc1f0214784762c59a94b044213aa16a3a1e18583", func := "downspout/downspoutlaw22.DecideMatchesReference", spec := "decideMatchesReference", inPlace := ["internal/bytealg.IndexByteString", "internal/bytealg.IndexString"], unfollowed := true, recurses := true, named := ["internal/bytealg.MaxLen", "unicode/utf8.first", "unicode/utf8.acceptRanges"], apart := false, laid := [("unicode/utf8.acceptRanges", laid_unicode_utf8_acceptRanges), ("unicode/utf8.first", laid_unicode_utf8_first)] }
def DecideMatchesReferenceSaid : Prop := decideMatchesReferenceRow.holds Tryz.pinned (OpenSpec.ofChange decideMatchesReferenceSpec)

/-- ITS FALSE NEIGHBOUR: 'it returns false'. Refute it at one input. -/
def decideMatchesReferenceWrong : ChangeSpec := { name := "decideMatchesReference", fn := fun _ => fun
  | [d1, d2, d3] => { results := [.lit (.bool false)], args := [d1, d2, d3] }
  | _ => none }
def DecideMatchesReferenceWrongFalsely : Prop := decideMatchesReferenceRow.holds Tryz.pinned (OpenSpec.ofChange decideMatchesReferenceWrong)

/-- 'downspoutlaw22.DecideDepths': WHATEVER THE INPUT: true; the input reads as it did. -/
def decideDepthsSpec : ChangeSpec := { name := "decideDepths", fn := fun _ => fun
  | [d] => { results := [.lit (.bool true)], args := [d] }
  | _ => none }
def decideDepthsRow : OpenClaim := { program := "ytddbnkpkjnnggaagreatdoor", sum := "91642116638d06fe1628630cc1f0214784762c59a94b044213aa16a3a1e18583", func := "downspout/downspoutlaw22.DecideDepths", spec := "decideDepths", inPlace := ["internal/bytealg.IndexByteString", "internal/bytealg.IndexString"], unfollowed := true, recurses := true, named := ["internal/bytealg.MaxLen", "unicode/utf8.first", "unicode/utf8.acceptRanges"], apart := false, laid := [("unicode/utf8.acceptRanges", laid_unicode_utf8_acceptRanges), ("unicode/utf8.first", laid_unicode_utf8_first)] }
def DecideDepthsSaid : Prop := decideDepthsRow.holds Tryz.pinned (OpenSpec.ofChange decideDepthsSpec)

/-- ITS FALSE NEIGHBOUR: 'it returns false'. Refute it at one input. -/
def decideDepthsWrong : ChangeSpec := { name := "decideDepths", fn := fun _ => fun
  | [d] => { results := [.lit (.bool false)], args := [d] }
  | _ => none }
def DecideDepthsWrongFalsely : Prop := decideDepthsRow.holds Tryz.pinned (OpenSpec.ofChange decideDepthsWrong)

/-- 'downspoutlaw22.DecideHolds': WHATEVER THE INPUT: true; the input reads as it did. -/
def decideHoldsSpec : ChangeSpec := { name := "decideHolds", fn := fun _ => fun
  | [d] => { results := [.lit (.bool true)], args := [d] }
  | _ => none }
def decideHoldsRow : OpenClaim := { program := "ytddbnkpkjnnggaagreatdoor", sum := "91642116638d06fe1628630cc1f0214784762c59a94b044213aa16a3a1e18583", func := "downspout/downspoutlaw22.DecideHolds", spec := "decideHolds", inPlace := ["internal/bytealg.IndexByteString", "internal/bytealg.IndexString"], unfollowed := true, recurses := true, named := ["internal/bytealg.MaxLen", "unicode/utf8.first", "unicode/utf8.acceptRanges"], apart := false, laid := [("unicode/utf8.acceptRanges", laid_unicode_utf8_acceptRanges), ("unicode/utf8.first", laid_unicode_utf8_first)] }
def DecideHoldsSaid : Prop := decideHoldsRow.holds Tryz.pinned (OpenSpec.ofChange decideHoldsSpec)

/-- ITS FALSE NEIGHBOUR: 'it returns false'. Refute it at one input. -/
def decideHoldsWrong : ChangeSpec := { name := "decideHolds", fn := fun _ => fun
  | [d] => { results := [.lit (.bool false)], args := [d] }
  | _ => none }
def DecideHoldsWrongFalsely : Prop := decideHoldsRow.holds Tryz.pinned (OpenSpec.ofChange decideHoldsWrong)

/-- 'downspoutlaw22.DecideRoom': WHATEVER THE INPUT: true; the input reads as it did. -/
def decideRoomSpec : ChangeSpec := { name := "decideRoom", fn := fun _ => fun
  | [d1, d2] => { results := [.lit (.bool true)], args := [d1, d2] }
  | _ => none }
def decideRoomRow : OpenClaim := { program := "ytddbnkpkjnnggaagreatdoor", sum := "91642116638d06fe1628630cc1f0214784762c59a94b044213aa16a3a1e18583", func := "downspout/downspoutlaw22.DecideRoom", spec := "decideRoom", inPlace := ["internal/bytealg.IndexByteString", "internal/bytealg.IndexString"], unfollowed := true, recurses := true, named := ["internal/bytealg.MaxLen", "unicode/utf8.first", "unicode/utf8.acceptRanges"], apart := false, laid := [("unicode/utf8.acceptRanges", laid_unicode_utf8_acceptRanges), ("unicode/utf8.first", laid_unicode_utf8_first)] }
def DecideRoomSaid : Prop := decideRoomRow.holds Tryz.pinned (OpenSpec.ofChange decideRoomSpec)

/-- ITS FALSE NEIGHBOUR: 'it returns false'. Refute it at one input. -/
def decideRoomWrong : ChangeSpec := { name := "decideRoom", fn := fun _ => fun
  | [d1, d2] => { results := [.lit (.bool false)], args := [d1, d2] }
  | _ => none }
def DecideRoomWrongFalsely : Prop := decideRoomRow.holds Tryz.pinned (OpenSpec.ofChange decideRoomWrong)

/-- 'downspoutlaw22.DecideLists': WHATEVER THE INPUT: true; the input reads as it did. -/
def decideListsSpec : ChangeSpec := { name := "decideLists", fn := fun _ => fun
  | [d1, d2] => { results := [.lit (.bool true)], args := [d1, d2] }
  | _ => none }
def decideListsRow : OpenClaim := { program := "ytddbnkpkjnnggaagreatdoor", sum := "91642116638d06fe1628630cc1f0214784762c59a94b044213aa16a3a1e18583", func := "downspout/downspoutlaw22.DecideLists", spec := "decideLists", inPlace := ["internal/bytealg.IndexByteString", "internal/bytealg.IndexString"], unfollowed := true, recurses := true, named := ["internal/bytealg.MaxLen", "unicode/utf8.first", "unicode/utf8.acceptRanges"], apart := false, laid := [("unicode/utf8.acceptRanges", laid_unicode_utf8_acceptRanges), ("unicode/utf8.first", laid_unicode_utf8_first)] }
def DecideListsSaid : Prop := decideListsRow.holds Tryz.pinned (OpenSpec.ofChange decideListsSpec)

/-- ITS FALSE NEIGHBOUR: 'it returns false'. Refute it at one input. -/
def decideListsWrong : ChangeSpec := { name := "decideLists", fn := fun _ => fun
  | [d1, d2] => { results := [.lit (.bool false)], args := [d1, d2] }
  | _ => none }
def DecideListsWrongFalsely : Prop := decideListsRow.holds Tryz.pinned (OpenSpec.ofChange decideListsWrong)

/-- 'downspoutlaw22.DecideRefuses': WHATEVER THE INPUT: true; the input reads as it did. -/
def decideRefusesSpec : ChangeSpec := { name := "decideRefuses", fn := fun _ => fun
  | [d1, d2, d3] => { results := [.lit (.bool true)], args := [d1, d2, d3] }
  | _ => none }
def decideRefusesRow : OpenClaim := { program := "ytddbnkpkjnnggaagreatdoor", sum := "91642116638d06fe1628630cc1f0214784762c59a94b044213aa16a3a1e18583", func := "downspout/downspoutlaw22.DecideRefuses", spec := "decideRefuses", inPlace := ["internal/bytealg.IndexByteString", "internal/bytealg.IndexString"], unfollowed := true, recurses := true, named := ["internal/bytealg.MaxLen", "unicode/utf8.first", "unicode/utf8.acceptRanges"], apart := false, laid := [("unicode/utf8.acceptRanges", laid_unicode_utf8_acceptRanges), ("unicode/utf8.first", laid_unicode_utf8_first)] }
def DecideRefusesSaid : Prop := decideRefusesRow.holds Tryz.pinned (OpenSpec.ofChange decideRefusesSpec)

/-- ITS FALSE NEIGHBOUR: 'it returns false'. Refute it at one input. -/
def decideRefusesWrong : ChangeSpec := { name := "decideRefuses", fn := fun _ => fun
  | [d1, d2, d3] => { results := [.lit (.bool false)], args := [d1, d2, d3] }
  | _ => none }
def DecideRefusesWrongFalsely : Prop := decideRefusesRow.holds Tryz.pinned (OpenSpec.ofChange decideRefusesWrong)

/-- 'downspoutlaw22.DecideTruth': WHATEVER THE INPUT: true; the input reads as it did. -/
def decideTruthSpec : ChangeSpec := { name := "decideTruth", fn := fun _ => fun
  | [d] => { results := [.lit (.bool true)], args := [d] }
  | _ => none }
def decideTruthRow : OpenClaim := { program := "ytddbnkpkjnnggaagreatdoor", sum := "91642116638d06fe1628630cc1f0214784762c59a94b044213aa16a3a1e18583", func := "downspout/downspoutlaw22.DecideTruth", spec := "decideTruth", inPlace := ["internal/bytealg.IndexByteString", "internal/bytealg.IndexString", "internal/bytealg.abigen_runtime_cmpstring"], unfollowed := true, recurses := true, named := ["internal/bytealg.MaxLen", "unicode/utf8.first", "unicode/utf8.acceptRanges"], apart := false, laid := [("unicode/utf8.acceptRanges", laid_unicode_utf8_acceptRanges), ("unicode/utf8.first", laid_unicode_utf8_first)] }
def DecideTruthSaid : Prop := decideTruthRow.holds Tryz.pinned (OpenSpec.ofChange decideTruthSpec)

/-- ITS FALSE NEIGHBOUR: 'it returns false'. Refute it at one input. -/
def decideTruthWrong : ChangeSpec := { name := "decideTruth", fn := fun _ => fun
  | [d] => { results := [.lit (.bool false)], args := [d] }
  | _ => none }
def DecideTruthWrongFalsely : Prop := decideTruthRow.holds Tryz.pinned (OpenSpec.ofChange decideTruthWrong)

/- THE SECOND FORM. 'bulk': how many values and letters a reading holds, each counted each time it is reached (what is shared counts as often as it is met; a slice's spare places count too). A statement '..UptoSaid' is the law's where the arguments, and the package variables that the reading takes, are together of bulk at most 1048576: NARROWER than '..Said'. Prove '..Said' where nothing that the law and all that it calls make is longer than what came in: it says more and counts as full. Else prove '..UptoSaid'. A law counts once. -/
mutual
def uptoBulk {H : Type} : DataW H → Nat
  | .lit (.string bytes) => bytes.length + 1
  | .lit _ => 1
  | .nil => 1
  | .ptr d => uptoBulk d + 1
  | .slice elems spare => uptoBulkAll elems + uptoBulkAll spare + 1
  | .agg parts => uptoBulkAll parts + 1
  | .iface _ d => uptoBulk d + 1
  | .map entries => uptoBulkEntries entries + 1
  | .held _ => 1
def uptoBulkAll {H : Type} : List (DataW H) → Nat
  | [] => 0
  | d :: r => uptoBulk d + uptoBulkAll r
def uptoBulkEntries {H : Type} : List (Lit × DataW H) → Nat
  | [] => 0
  | x :: r => uptoBulkEntry x + uptoBulkEntries r
def uptoBulkEntry {H : Type} : Lit × DataW H → Nat
  | (.string bytes, d) => bytes.length + uptoBulk d + 1
  | (_, d) => uptoBulk d + 1
 end
def uptoSmall : (H : Type) → List (DataW H) → Bool := fun _ ds => decide (uptoBulkAll ds ≤ 1048576)
def OpenSpec.upto (s : _root_.Go.ChangeSpec) : _root_.Go.OpenSpec := { _root_.Go.OpenSpec.ofChange s with cond := some uptoSmall }

/-- 'downspoutlaw22.DecideMatchesReference', WHERE WHAT IT READS IS OF BULK AT MOST 1048576: true; the input reads as it did. -/
def decideMatchesReferenceUptoRow : OpenClaim := { program := "ytddbnkpkjnnggaagreatdoor", sum := "91642116638d06fe1628630cc1f0214784762c59a94b044213aa16a3a1e18583", func := "downspout/downspoutlaw22.DecideMatchesReference", spec := "decideMatchesReference", inPlace := ["internal/bytealg.IndexByteString", "internal/bytealg.IndexString"], unfollowed := true, recurses := true, named := ["internal/bytealg.MaxLen", "unicode/utf8.first", "unicode/utf8.acceptRanges"], apart := false, laid := [("unicode/utf8.acceptRanges", laid_unicode_utf8_acceptRanges), ("unicode/utf8.first", laid_unicode_utf8_first)], narrowed := true }
def DecideMatchesReferenceUptoSaid : Prop := decideMatchesReferenceUptoRow.holds Tryz.pinned (OpenSpec.upto decideMatchesReferenceSpec)

/-- 'downspoutlaw22.DecideDepths', WHERE WHAT IT READS IS OF BULK AT MOST 1048576: true; the input reads as it did. -/
def decideDepthsUptoRow : OpenClaim := { program := "ytddbnkpkjnnggaagreatdoor", sum := "91642116638d06fe1628630cc1f0214784762c59a94b044213aa16a3a1e18583", func := "downspout/downspoutlaw22.DecideDepths", spec := "decideDepths", inPlace := ["internal/bytealg.IndexByteString", "internal/bytealg.IndexString"], unfollowed := true, recurses := true, named := ["internal/bytealg.MaxLen", "unicode/utf8.first", "unicode/utf8.acceptRanges"], apart := false, laid := [("unicode/utf8.acceptRanges", laid_unicode_utf8_acceptRanges), ("unicode/utf8.first", laid_unicode_utf8_first)], narrowed := true }
def DecideDepthsUptoSaid : Prop := decideDepthsUptoRow.holds Tryz.pinned (OpenSpec.upto decideDepthsSpec)

/-- 'downspoutlaw22.DecideHolds', WHERE WHAT IT READS IS OF BULK AT MOST 1048576: true; the input reads as it did. -/
def decideHoldsUptoRow : OpenClaim := { program := "ytddbnkpkjnnggaagreatdoor", sum := "91642116638d06fe1628630cc1f0214784762c59a94b044213aa16a3a1e18583", func := "downspout/downspoutlaw22.DecideHolds", spec := "decideHolds", inPlace := ["internal/bytealg.IndexByteString", "internal/bytealg.IndexString"], unfollowed := true, recurses := true, named := ["internal/bytealg.MaxLen", "unicode/utf8.first", "unicode/utf8.acceptRanges"], apart := false, laid := [("unicode/utf8.acceptRanges", laid_unicode_utf8_acceptRanges), ("unicode/utf8.first", laid_unicode_utf8_first)], narrowed := true }
def DecideHoldsUptoSaid : Prop := decideHoldsUptoRow.holds Tryz.pinned (OpenSpec.upto decideHoldsSpec)

/-- 'downspoutlaw22.DecideRoom', WHERE WHAT IT READS IS OF BULK AT MOST 1048576: true; the input reads as it did. -/
def decideRoomUptoRow : OpenClaim := { program := "ytddbnkpkjnnggaagreatdoor", sum := "91642116638d06fe1628630cc1f0214784762c59a94b044213aa16a3a1e18583", func := "downspout/downspoutlaw22.DecideRoom", spec := "decideRoom", inPlace := ["internal/bytealg.IndexByteString", "internal/bytealg.IndexString"], unfollowed := true, recurses := true, named := ["internal/bytealg.MaxLen", "unicode/utf8.first", "unicode/utf8.acceptRanges"], apart := false, laid := [("unicode/utf8.acceptRanges", laid_unicode_utf8_acceptRanges), ("unicode/utf8.first", laid_unicode_utf8_first)], narrowed := true }
def DecideRoomUptoSaid : Prop := decideRoomUptoRow.holds Tryz.pinned (OpenSpec.upto decideRoomSpec)

/-- 'downspoutlaw22.DecideLists', WHERE WHAT IT READS IS OF BULK AT MOST 1048576: true; the input reads as it did. -/
def decideListsUptoRow : OpenClaim := { program := "ytddbnkpkjnnggaagreatdoor", sum := "91642116638d06fe1628630cc1f0214784762c59a94b044213aa16a3a1e18583", func := "downspout/downspoutlaw22.DecideLists", spec := "decideLists", inPlace := ["internal/bytealg.IndexByteString", "internal/bytealg.IndexString"], unfollowed := true, recurses := true, named := ["internal/bytealg.MaxLen", "unicode/utf8.first", "unicode/utf8.acceptRanges"], apart := false, laid := [("unicode/utf8.acceptRanges", laid_unicode_utf8_acceptRanges), ("unicode/utf8.first", laid_unicode_utf8_first)], narrowed := true }
def DecideListsUptoSaid : Prop := decideListsUptoRow.holds Tryz.pinned (OpenSpec.upto decideListsSpec)

/-- 'downspoutlaw22.DecideRefuses', WHERE WHAT IT READS IS OF BULK AT MOST 1048576: true; the input reads as it did. -/
def decideRefusesUptoRow : OpenClaim := { program := "ytddbnkpkjnnggaagreatdoor", sum := "91642116638d06fe1628630cc1f0214784762c59a94b044213aa16a3a1e18583", func := "downspout/downspoutlaw22.DecideRefuses", spec := "decideRefuses", inPlace := ["internal/bytealg.IndexByteString", "internal/bytealg.IndexString"], unfollowed := true, recurses := true, named := ["internal/bytealg.MaxLen", "unicode/utf8.first", "unicode/utf8.acceptRanges"], apart := false, laid := [("unicode/utf8.acceptRanges", laid_unicode_utf8_acceptRanges), ("unicode/utf8.first", laid_unicode_utf8_first)], narrowed := true }
def DecideRefusesUptoSaid : Prop := decideRefusesUptoRow.holds Tryz.pinned (OpenSpec.upto decideRefusesSpec)

/-- 'downspoutlaw22.DecideTruth', WHERE WHAT IT READS IS OF BULK AT MOST 1048576: true; the input reads as it did. -/
def decideTruthUptoRow : OpenClaim := { program := "ytddbnkpkjnnggaagreatdoor", sum := "91642116638d06fe1628630cc1f0214784762c59a94b044213aa16a3a1e18583", func := "downspout/downspoutlaw22.DecideTruth", spec := "decideTruth", inPlace := ["internal/bytealg.IndexByteString", "internal/bytealg.IndexString", "internal/bytealg.abigen_runtime_cmpstring"], unfollowed := true, recurses := true, named := ["internal/bytealg.MaxLen", "unicode/utf8.first", "unicode/utf8.acceptRanges"], apart := false, laid := [("unicode/utf8.acceptRanges", laid_unicode_utf8_acceptRanges), ("unicode/utf8.first", laid_unicode_utf8_first)], narrowed := true }
def DecideTruthUptoSaid : Prop := decideTruthUptoRow.holds Tryz.pinned (OpenSpec.upto decideTruthSpec)

end Rows
end Go.Proofs.YtddbnkpkjnnggaaGreatDoor
