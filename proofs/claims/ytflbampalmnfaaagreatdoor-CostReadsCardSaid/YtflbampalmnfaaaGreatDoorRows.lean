/-
  NARROWER THAN 'FOR EVERY INPUT', by the rows' own cells (each row's printed sentence says how): CostMatchesReference: laid · CostReads: laid · CostAdds: laid · TreeMatchesReference: laid · TreeReads: laid · TreeCounts: laid · TreeParts: laid · TreeLost: laid.
  DERIVED. THE GIVEN ROWS OF THIS SEAT. 8 by the template 'for every input the law returns true; each argument reads behind the call as it read before'; 0 by the template 'total and deterministic' (their statements: YtflbampalmnfaaaGreatDoorTotals.lean).
  GIVEN WITH THE SEED: the statements are not yours to turn. If you find one false, say at which input.
  Laid BY PROGRAM, IN A SANDBOX (cutbox-rows.mjs): the forced cells as the released guide's own fill.sh prints them over the translation 28f39c8d8fe134cf… (all of the seat's roots in one cut). By AI agents, Wed Nov 11 2026. No macro, syntax, notation, axiom, sorry.
-/
import Derived.Test.YtflbampalmnfaaaGreatDoorChecked
import GoSem.PinnedTables
import GoSem.Claim
import GoSem.ClaimJoined
import GoSem.ClaimMapViews
import Derived.JoinedTies
import Derived.KernelRfl
namespace Go.Proofs.YtflbampalmnfaaaGreatDoor
/- THE CELL 'sum', in the pinned program and in every row, IS THE sha256 OF THE DUMP (.gsa) THAT YtflbampalmnfaaaGreatDoorProg.lean LOADS. Nothing in Lean hashes anything: it is a label: what it is worth is what the hold of that sum in a sandbox is worth. -/
noncomputable def Tryz.pinned : Pinned := { name := "ytflbampalmnfaaagreatdoor", sum := "28f39c8d8fe134cf1cd9c839e2baeb99704e336797493c05d59f2d7df4f04941", checked := Tryz.checked }
namespace Rows
def none {H : Type} : Left H := { results := [], args := [] }

/- WHAT THE LISTED PACKAGE-LEVEL VARIABLES READ AS WHEN THE CALL BEGINS. Each datum BY PROGRAM (the guide's laid-datum.mjs) off the statement by which the dump's own 'gosem.cut.vars' lays the variable. In a bare row this is a premise. The card (YtflbampalmnfaaaGreatDoorCards.lean) ties it to the program's text. -/
def laid_downspout_trace_steps {H : Type} : DataW H := .iface "func table" (.agg [.nil, .iface "func" (.lit (.string [100, 111, 119, 110, 115, 112, 111, 117, 116, 47, 116, 114, 97, 99, 101, 46, 115, 116, 101, 112, 115, 36, 49])), .iface "func" (.lit (.string [100, 111, 119, 110, 115, 112, 111, 117, 116, 47, 116, 114, 97, 99, 101, 46, 115, 116, 101, 112, 115, 36, 50])), .iface "func" (.lit (.string [100, 111, 119, 110, 115, 112, 111, 117, 116, 47, 116, 114, 97, 99, 101, 46, 115, 116, 101, 112, 115, 36, 51])), .iface "func" (.lit (.string [100, 111, 119, 110, 115, 112, 111, 117, 116, 47, 116, 114, 97, 99, 101, 46, 115, 116, 101, 112, 115, 36, 52])), .iface "func" (.lit (.string [100, 111, 119, 110, 115, 112, 111, 117, 116, 47, 116, 114, 97, 99, 101, 46, 98, 97, 99, 107])), .iface "func" (.lit (.string [100, 111, 119, 110, 115, 112, 111, 117, 116, 47, 116, 114, 97, 99, 101, 46, 115, 116, 101, 112, 115, 36, 53]))])
def laid_unicode_utf8_acceptRanges {H : Type} : DataW H := .agg [.agg [.lit (.int .u8 128), .lit (.int .u8 191)], .agg [.lit (.int .u8 160), .lit (.int .u8 191)], .agg [.lit (.int .u8 128), .lit (.int .u8 159)], .agg [.lit (.int .u8 144), .lit (.int .u8 191)], .agg [.lit (.int .u8 128), .lit (.int .u8 143)], .agg [.lit (.int .u8 0), .lit (.int .u8 0)], .agg [.lit (.int .u8 0), .lit (.int .u8 0)], .agg [.lit (.int .u8 0), .lit (.int .u8 0)], .agg [.lit (.int .u8 0), .lit (.int .u8 0)], .agg [.lit (.int .u8 0), .lit (.int .u8 0)], .agg [.lit (.int .u8 0), .lit (.int .u8 0)], .agg [.lit (.int .u8 0), .lit (.int .u8 0)], .agg [.lit (.int .u8 0), .lit (.int .u8 0)], .agg [.lit (.int .u8 0), .lit (.int .u8 0)], .agg [.lit (.int .u8 0), .lit (.int .u8 0)], .agg [.lit (.int .u8 0), .lit (.int .u8 0)]]
/-- One of Go's own tables, pinned by name: the form's constant. -/
def laid_unicode_utf8_first : DataW Unit := Go.Pinned.utf8First

/-- 'downspoutlaw30.CostMatchesReference': WHATEVER THE INPUT: true; the input reads as it did. -/
def costMatchesReferenceSpec : ChangeSpec := { name := "costMatchesReference", fn := fun _ => fun
  | [d1, d2, d3] => { results := [.lit (.bool true)], args := [d1, d2, d3] }
  | _ => none }
def costMatchesReferenceRow : OpenClaim := { program := "ytflbampalmnfaaagreatdoor", sum := "28f39c8d8fe134cf1cd9c839e2baeb99704e336797493c05d59f2d7df4f04941", func := "downspout/downspoutlaw30.CostMatchesReference", spec := "costMatchesReference", inPlace := ["internal/bytealg.abigen_runtime_cmpstring"], unfollowed := true, recurses := true, named := ["downspout/trace.steps"], apart := false, laid := [("downspout/trace.steps", laid_downspout_trace_steps)] }
def CostMatchesReferenceSaid : Prop := costMatchesReferenceRow.holds Tryz.pinned (OpenSpec.ofChange costMatchesReferenceSpec)

/-- ITS FALSE NEIGHBOUR: 'it returns false'. Refute it at one input. -/
def costMatchesReferenceWrong : ChangeSpec := { name := "costMatchesReference", fn := fun _ => fun
  | [d1, d2, d3] => { results := [.lit (.bool false)], args := [d1, d2, d3] }
  | _ => none }
def CostMatchesReferenceWrongFalsely : Prop := costMatchesReferenceRow.holds Tryz.pinned (OpenSpec.ofChange costMatchesReferenceWrong)

/-- 'downspoutlaw30.CostReads': WHATEVER THE INPUT: true; the input reads as it did. -/
def costReadsSpec : ChangeSpec := { name := "costReads", fn := fun _ => fun
  | [d1, d2] => { results := [.lit (.bool true)], args := [d1, d2] }
  | _ => none }
def costReadsRow : OpenClaim := { program := "ytflbampalmnfaaagreatdoor", sum := "28f39c8d8fe134cf1cd9c839e2baeb99704e336797493c05d59f2d7df4f04941", func := "downspout/downspoutlaw30.CostReads", spec := "costReads", inPlace := ["internal/bytealg.abigen_runtime_cmpstring"], unfollowed := true, recurses := true, named := ["downspout/trace.steps"], apart := false, laid := [("downspout/trace.steps", laid_downspout_trace_steps)] }
def CostReadsSaid : Prop := costReadsRow.holds Tryz.pinned (OpenSpec.ofChange costReadsSpec)

/-- ITS FALSE NEIGHBOUR: 'it returns false'. Refute it at one input. -/
def costReadsWrong : ChangeSpec := { name := "costReads", fn := fun _ => fun
  | [d1, d2] => { results := [.lit (.bool false)], args := [d1, d2] }
  | _ => none }
def CostReadsWrongFalsely : Prop := costReadsRow.holds Tryz.pinned (OpenSpec.ofChange costReadsWrong)

/-- 'downspoutlaw30.CostAdds': WHATEVER THE INPUT: true; the input reads as it did. -/
def costAddsSpec : ChangeSpec := { name := "costAdds", fn := fun _ => fun
  | [d1, d2] => { results := [.lit (.bool true)], args := [d1, d2] }
  | _ => none }
def costAddsRow : OpenClaim := { program := "ytflbampalmnfaaagreatdoor", sum := "28f39c8d8fe134cf1cd9c839e2baeb99704e336797493c05d59f2d7df4f04941", func := "downspout/downspoutlaw30.CostAdds", spec := "costAdds", inPlace := ["internal/bytealg.abigen_runtime_cmpstring"], unfollowed := true, recurses := true, named := ["downspout/trace.steps"], apart := false, laid := [("downspout/trace.steps", laid_downspout_trace_steps)] }
def CostAddsSaid : Prop := costAddsRow.holds Tryz.pinned (OpenSpec.ofChange costAddsSpec)

/-- ITS FALSE NEIGHBOUR: 'it returns false'. Refute it at one input. -/
def costAddsWrong : ChangeSpec := { name := "costAdds", fn := fun _ => fun
  | [d1, d2] => { results := [.lit (.bool false)], args := [d1, d2] }
  | _ => none }
def CostAddsWrongFalsely : Prop := costAddsRow.holds Tryz.pinned (OpenSpec.ofChange costAddsWrong)

/-- 'downspoutlaw12.TreeMatchesReference': WHATEVER THE INPUT: true; the input reads as it did. -/
def treeMatchesReferenceSpec : ChangeSpec := { name := "treeMatchesReference", fn := fun _ => fun
  | [d1, d2, d3] => { results := [.lit (.bool true)], args := [d1, d2, d3] }
  | _ => none }
def treeMatchesReferenceRow : OpenClaim := { program := "ytflbampalmnfaaagreatdoor", sum := "28f39c8d8fe134cf1cd9c839e2baeb99704e336797493c05d59f2d7df4f04941", func := "downspout/downspoutlaw12.TreeMatchesReference", spec := "treeMatchesReference", inPlace := ["internal/bytealg.abigen_runtime_cmpstring", "internal/bytealg.IndexByteString", "internal/bytealg.IndexString"], unfollowed := true, recurses := true, named := ["downspout/trace.steps", "internal/bytealg.MaxLen", "unicode/utf8.first", "unicode/utf8.acceptRanges"], apart := false, laid := [("unicode/utf8.acceptRanges", laid_unicode_utf8_acceptRanges), ("downspout/trace.steps", laid_downspout_trace_steps), ("unicode/utf8.first", laid_unicode_utf8_first)] }
def TreeMatchesReferenceSaid : Prop := treeMatchesReferenceRow.holds Tryz.pinned (OpenSpec.ofChange treeMatchesReferenceSpec)

/-- ITS FALSE NEIGHBOUR: 'it returns false'. Refute it at one input. -/
def treeMatchesReferenceWrong : ChangeSpec := { name := "treeMatchesReference", fn := fun _ => fun
  | [d1, d2, d3] => { results := [.lit (.bool false)], args := [d1, d2, d3] }
  | _ => none }
def TreeMatchesReferenceWrongFalsely : Prop := treeMatchesReferenceRow.holds Tryz.pinned (OpenSpec.ofChange treeMatchesReferenceWrong)

/-- 'downspoutlaw12.TreeReads': WHATEVER THE INPUT: true; the input reads as it did. -/
def treeReadsSpec : ChangeSpec := { name := "treeReads", fn := fun _ => fun
  | [d1, d2, d3] => { results := [.lit (.bool true)], args := [d1, d2, d3] }
  | _ => none }
def treeReadsRow : OpenClaim := { program := "ytflbampalmnfaaagreatdoor", sum := "28f39c8d8fe134cf1cd9c839e2baeb99704e336797493c05d59f2d7df4f04941", func := "downspout/downspoutlaw12.TreeReads", spec := "treeReads", inPlace := ["internal/bytealg.abigen_runtime_cmpstring", "internal/bytealg.IndexByteString", "internal/bytealg.IndexString"], unfollowed := true, recurses := true, named := ["downspout/trace.steps", "internal/bytealg.MaxLen", "unicode/utf8.first", "unicode/utf8.acceptRanges"], apart := false, laid := [("unicode/utf8.acceptRanges", laid_unicode_utf8_acceptRanges), ("downspout/trace.steps", laid_downspout_trace_steps), ("unicode/utf8.first", laid_unicode_utf8_first)] }
def TreeReadsSaid : Prop := treeReadsRow.holds Tryz.pinned (OpenSpec.ofChange treeReadsSpec)

/-- ITS FALSE NEIGHBOUR: 'it returns false'. Refute it at one input. -/
def treeReadsWrong : ChangeSpec := { name := "treeReads", fn := fun _ => fun
  | [d1, d2, d3] => { results := [.lit (.bool false)], args := [d1, d2, d3] }
  | _ => none }
def TreeReadsWrongFalsely : Prop := treeReadsRow.holds Tryz.pinned (OpenSpec.ofChange treeReadsWrong)

/-- 'downspoutlaw12.TreeCounts': WHATEVER THE INPUT: true; the input reads as it did. -/
def treeCountsSpec : ChangeSpec := { name := "treeCounts", fn := fun _ => fun
  | [d1, d2] => { results := [.lit (.bool true)], args := [d1, d2] }
  | _ => none }
def treeCountsRow : OpenClaim := { program := "ytflbampalmnfaaagreatdoor", sum := "28f39c8d8fe134cf1cd9c839e2baeb99704e336797493c05d59f2d7df4f04941", func := "downspout/downspoutlaw12.TreeCounts", spec := "treeCounts", inPlace := ["internal/bytealg.abigen_runtime_cmpstring", "internal/bytealg.IndexByteString", "internal/bytealg.IndexString"], unfollowed := true, recurses := true, named := ["downspout/trace.steps", "internal/bytealg.MaxLen", "unicode/utf8.first", "unicode/utf8.acceptRanges"], apart := false, laid := [("unicode/utf8.acceptRanges", laid_unicode_utf8_acceptRanges), ("downspout/trace.steps", laid_downspout_trace_steps), ("unicode/utf8.first", laid_unicode_utf8_first)] }
def TreeCountsSaid : Prop := treeCountsRow.holds Tryz.pinned (OpenSpec.ofChange treeCountsSpec)

/-- ITS FALSE NEIGHBOUR: 'it returns false'. Refute it at one input. -/
def treeCountsWrong : ChangeSpec := { name := "treeCounts", fn := fun _ => fun
  | [d1, d2] => { results := [.lit (.bool false)], args := [d1, d2] }
  | _ => none }
def TreeCountsWrongFalsely : Prop := treeCountsRow.holds Tryz.pinned (OpenSpec.ofChange treeCountsWrong)

/-- 'downspoutlaw12.TreeParts': WHATEVER THE INPUT: true; the input reads as it did. -/
def treePartsSpec : ChangeSpec := { name := "treeParts", fn := fun _ => fun
  | [d1, d2] => { results := [.lit (.bool true)], args := [d1, d2] }
  | _ => none }
def treePartsRow : OpenClaim := { program := "ytflbampalmnfaaagreatdoor", sum := "28f39c8d8fe134cf1cd9c839e2baeb99704e336797493c05d59f2d7df4f04941", func := "downspout/downspoutlaw12.TreeParts", spec := "treeParts", inPlace := ["internal/bytealg.abigen_runtime_cmpstring", "internal/bytealg.IndexByteString", "internal/bytealg.IndexString"], unfollowed := true, recurses := true, named := ["downspout/trace.steps", "internal/bytealg.MaxLen", "unicode/utf8.first", "unicode/utf8.acceptRanges"], apart := false, laid := [("unicode/utf8.acceptRanges", laid_unicode_utf8_acceptRanges), ("downspout/trace.steps", laid_downspout_trace_steps), ("unicode/utf8.first", laid_unicode_utf8_first)] }
def TreePartsSaid : Prop := treePartsRow.holds Tryz.pinned (OpenSpec.ofChange treePartsSpec)

/-- ITS FALSE NEIGHBOUR: 'it returns false'. Refute it at one input. -/
def treePartsWrong : ChangeSpec := { name := "treeParts", fn := fun _ => fun
  | [d1, d2] => { results := [.lit (.bool false)], args := [d1, d2] }
  | _ => none }
def TreePartsWrongFalsely : Prop := treePartsRow.holds Tryz.pinned (OpenSpec.ofChange treePartsWrong)

/-- 'downspoutlaw12.TreeLost': WHATEVER THE INPUT: true; the input reads as it did. -/
def treeLostSpec : ChangeSpec := { name := "treeLost", fn := fun _ => fun
  | [d1, d2, d3] => { results := [.lit (.bool true)], args := [d1, d2, d3] }
  | _ => none }
def treeLostRow : OpenClaim := { program := "ytflbampalmnfaaagreatdoor", sum := "28f39c8d8fe134cf1cd9c839e2baeb99704e336797493c05d59f2d7df4f04941", func := "downspout/downspoutlaw12.TreeLost", spec := "treeLost", inPlace := ["internal/bytealg.abigen_runtime_cmpstring", "internal/bytealg.IndexByteString", "internal/bytealg.IndexString"], unfollowed := true, recurses := true, named := ["downspout/trace.steps", "internal/bytealg.MaxLen", "unicode/utf8.first", "unicode/utf8.acceptRanges"], apart := false, laid := [("unicode/utf8.acceptRanges", laid_unicode_utf8_acceptRanges), ("downspout/trace.steps", laid_downspout_trace_steps), ("unicode/utf8.first", laid_unicode_utf8_first)] }
def TreeLostSaid : Prop := treeLostRow.holds Tryz.pinned (OpenSpec.ofChange treeLostSpec)

/-- ITS FALSE NEIGHBOUR: 'it returns false'. Refute it at one input. -/
def treeLostWrong : ChangeSpec := { name := "treeLost", fn := fun _ => fun
  | [d1, d2, d3] => { results := [.lit (.bool false)], args := [d1, d2, d3] }
  | _ => none }
def TreeLostWrongFalsely : Prop := treeLostRow.holds Tryz.pinned (OpenSpec.ofChange treeLostWrong)

/- THE SECOND FORM. 'bulk': how many values and letters a reading holds, each counted each time it is reached (what is shared counts as often as it is met; a slice's spare places count too). A statement '..UptoSaid' is the law's where the arguments, and the package variables that the reading takes, are together of bulk at most 1048576: NARROWER than '..Said'. Prove '..Said' where nothing that the law and all that it calls make is longer than what came in: it says more and counts as full. Else prove '..UptoSaid'. A law counts once. -/
mutual
def uptoBulk {H : Type} : DataW H → Nat
  | .lit (.string bytes) => bytes.length + 1
  | .lit _ => 1
  | .nil => 1
  | .ptr d => uptoBulk d + 1
  | .slice elems spare => uptoBulkAll elems + uptoBulkAll spare + 1
  | .agg parts => uptoBulkAll parts + 1
  | .iface _ d => uptoBulk d + 1
  | .map entries => uptoBulkEntries entries + 1
  | .held _ => 1
def uptoBulkAll {H : Type} : List (DataW H) → Nat
  | [] => 0
  | d :: r => uptoBulk d + uptoBulkAll r
def uptoBulkEntries {H : Type} : List (Lit × DataW H) → Nat
  | [] => 0
  | x :: r => uptoBulkEntry x + uptoBulkEntries r
def uptoBulkEntry {H : Type} : Lit × DataW H → Nat
  | (.string bytes, d) => bytes.length + uptoBulk d + 1
  | (_, d) => uptoBulk d + 1
 end
def uptoSmall : (H : Type) → List (DataW H) → Bool := fun _ ds => decide (uptoBulkAll ds ≤ 1048576)
def OpenSpec.upto (s : _root_.Go.ChangeSpec) : _root_.Go.OpenSpec := { _root_.Go.OpenSpec.ofChange s with cond := some uptoSmall }

/-- 'downspoutlaw30.CostMatchesReference', WHERE WHAT IT READS IS OF BULK AT MOST 1048576: true; the input reads as it did. -/
def costMatchesReferenceUptoRow : OpenClaim := { program := "ytflbampalmnfaaagreatdoor", sum := "28f39c8d8fe134cf1cd9c839e2baeb99704e336797493c05d59f2d7df4f04941", func := "downspout/downspoutlaw30.CostMatchesReference", spec := "costMatchesReference", inPlace := ["internal/bytealg.abigen_runtime_cmpstring"], unfollowed := true, recurses := true, named := ["downspout/trace.steps"], apart := false, laid := [("downspout/trace.steps", laid_downspout_trace_steps)], narrowed := true }
def CostMatchesReferenceUptoSaid : Prop := costMatchesReferenceUptoRow.holds Tryz.pinned (OpenSpec.upto costMatchesReferenceSpec)

/-- 'downspoutlaw30.CostReads', WHERE WHAT IT READS IS OF BULK AT MOST 1048576: true; the input reads as it did. -/
def costReadsUptoRow : OpenClaim := { program := "ytflbampalmnfaaagreatdoor", sum := "28f39c8d8fe134cf1cd9c839e2baeb99704e336797493c05d59f2d7df4f04941", func := "downspout/downspoutlaw30.CostReads", spec := "costReads", inPlace := ["internal/bytealg.abigen_runtime_cmpstring"], unfollowed := true, recurses := true, named := ["downspout/trace.steps"], apart := false, laid := [("downspout/trace.steps", laid_downspout_trace_steps)], narrowed := true }
def CostReadsUptoSaid : Prop := costReadsUptoRow.holds Tryz.pinned (OpenSpec.upto costReadsSpec)

/-- 'downspoutlaw30.CostAdds', WHERE WHAT IT READS IS OF BULK AT MOST 1048576: true; the input reads as it did. -/
def costAddsUptoRow : OpenClaim := { program := "ytflbampalmnfaaagreatdoor", sum := "28f39c8d8fe134cf1cd9c839e2baeb99704e336797493c05d59f2d7df4f04941", func := "downspout/downspoutlaw30.CostAdds", spec := "costAdds", inPlace := ["internal/bytealg.abigen_runtime_cmpstring"], unfollowed := true, recurses := true, named := ["downspout/trace.steps"], apart := false, laid := [("downspout/trace.steps", laid_downspout_trace_steps)], narrowed := true }
def CostAddsUptoSaid : Prop := costAddsUptoRow.holds Tryz.pinned (OpenSpec.upto costAddsSpec)

/-- 'downspoutlaw12.TreeMatchesReference', WHERE WHAT IT READS IS OF BULK AT MOST 1048576: true; the input reads as it did. -/
def treeMatchesReferenceUptoRow : OpenClaim := { program := "ytflbampalmnfaaagreatdoor", sum := "28f39c8d8fe134cf1cd9c839e2baeb99704e336797493c05d59f2d7df4f04941", func := "downspout/downspoutlaw12.TreeMatchesReference", spec := "treeMatchesReference", inPlace := ["internal/bytealg.abigen_runtime_cmpstring", "internal/bytealg.IndexByteString", "internal/bytealg.IndexString"], unfollowed := true, recurses := true, named := ["downspout/trace.steps", "internal/bytealg.MaxLen", "unicode/utf8.first", "unicode/utf8.acceptRanges"], apart := false, laid := [("unicode/utf8.acceptRanges", laid_unicode_utf8_acceptRanges), ("downspout/trace.steps", laid_downspout_trace_steps), ("unicode/utf8.first", laid_unicode_utf8_first)], narrowed := true }
def TreeMatchesReferenceUptoSaid : Prop := treeMatchesReferenceUptoRow.holds Tryz.pinned (OpenSpec.upto treeMatchesReferenceSpec)

/-- 'downspoutlaw12.TreeReads', WHERE WHAT IT READS IS OF BULK AT MOST 1048576: true; the input reads as it did. -/
def treeReadsUptoRow : OpenClaim := { program := "ytflbampalmnfaaagreatdoor", sum := "28f39c8d8fe134cf1cd9c839e2baeb99704e336797493c05d59f2d7df4f04941", func := "downspout/downspoutlaw12.TreeReads", spec := "treeReads", inPlace := ["internal/bytealg.abigen_runtime_cmpstring", "internal/bytealg.IndexByteString", "internal/bytealg.IndexString"], unfollowed := true, recurses := true, named := ["downspout/trace.steps", "internal/bytealg.MaxLen", "unicode/utf8.first", "unicode/utf8.acceptRanges"], apart := false, laid := [("unicode/utf8.acceptRanges", laid_unicode_utf8_acceptRanges), ("downspout/trace.steps", laid_downspout_trace_steps), ("unicode/utf8.first", laid_unicode_utf8_first)], narrowed := true }
def TreeReadsUptoSaid : Prop := treeReadsUptoRow.holds Tryz.pinned (OpenSpec.upto treeReadsSpec)

/-- 'downspoutlaw12.TreeCounts', WHERE WHAT IT READS IS OF BULK AT MOST 1048576: true; the input reads as it did. -/
def treeCountsUptoRow : OpenClaim := { program := "ytflbampalmnfaaagreatdoor", sum := "28f39c8d8fe134cf1cd9c839e2baeb99704e336797493c05d59f2d7df4f04941", func := "downspout/downspoutlaw12.TreeCounts", spec := "treeCounts", inPlace := ["internal/bytealg.abigen_runtime_cmpstring", "internal/bytealg.IndexByteString", "internal/bytealg.IndexString"], unfollowed := true, recurses := true, named := ["downspout/trace.steps", "internal/bytealg.MaxLen", "unicode/utf8.first", "unicode/utf8.acceptRanges"], apart := false, laid := [("unicode/utf8.acceptRanges", laid_unicode_utf8_acceptRanges), ("downspout/trace.steps", laid_downspout_trace_steps), ("unicode/utf8.first", laid_unicode_utf8_first)], narrowed := true }
def TreeCountsUptoSaid : Prop := treeCountsUptoRow.holds Tryz.pinned (OpenSpec.upto treeCountsSpec)

/-- 'downspoutlaw12.TreeParts', WHERE WHAT IT READS IS OF BULK AT MOST 1048576: true; the input reads as it did. -/
def treePartsUptoRow : OpenClaim := { program := "ytflbampalmnfaaagreatdoor", sum := "28f39c8d8fe134cf1cd9c839e2baeb99704e336797493c05d59f2d7df4f04941", func := "downspout/downspoutlaw12.TreeParts", spec := "treeParts", inPlace := ["internal/bytealg.abigen_runtime_cmpstring", "internal/bytealg.IndexByteString", "internal/bytealg.IndexString"], unfollowed := true, recurses := true, named := ["downspout/trace.steps", "internal/bytealg.MaxLen", "unicode/utf8.first", "unicode/utf8.acceptRanges"], apart := false, laid := [("unicode/utf8.acceptRanges", laid_unicode_utf8_acceptRanges), ("downspout/trace.steps", laid_downspout_trace_steps), ("unicode/utf8.first", laid_unicode_utf8_first)], narrowed := true }
def TreePartsUptoSaid : Prop := treePartsUptoRow.holds Tryz.pinned (OpenSpec.upto treePartsSpec)

/-- 'downspoutlaw12.TreeLost', WHERE WHAT IT READS IS OF BULK AT MOST 1048576: true; the input reads as it did. -/
def treeLostUptoRow : OpenClaim := { program := "ytflbampalmnfaaagreatdoor", sum := "28f39c8d8fe134cf1cd9c839e2baeb99704e336797493c05d59f2d7df4f04941", func := "downspout/downspoutlaw12.TreeLost", spec := "treeLost", inPlace := ["internal/bytealg.abigen_runtime_cmpstring", "internal/bytealg.IndexByteString", "internal/bytealg.IndexString"], unfollowed := true, recurses := true, named := ["downspout/trace.steps", "internal/bytealg.MaxLen", "unicode/utf8.first", "unicode/utf8.acceptRanges"], apart := false, laid := [("unicode/utf8.acceptRanges", laid_unicode_utf8_acceptRanges), ("downspout/trace.steps", laid_downspout_trace_steps), ("unicode/utf8.first", laid_unicode_utf8_first)], narrowed := true }
def TreeLostUptoSaid : Prop := treeLostUptoRow.holds Tryz.pinned (OpenSpec.upto treeLostSpec)

end Rows
end Go.Proofs.YtflbampalmnfaaaGreatDoor
