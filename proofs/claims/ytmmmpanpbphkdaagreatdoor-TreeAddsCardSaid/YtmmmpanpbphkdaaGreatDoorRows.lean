/-
  NARROWER THAN 'FOR EVERY INPUT', by the rows' own cells (each row's printed sentence says how): CostAdds: laid · TreeMatchesReference: laid · TreeReads: laid · TreeCounts: laid · TreeParts: laid · TreeLost: laid · TreeShapes: laid · TreeAdds: laid · TreeKeeps: laid.
  DERIVED. THE GIVEN ROWS OF THIS SEAT. 9 by the template 'for every input the law returns true; each argument reads behind the call as it read before'; 0 by the template 'total and deterministic' (their statements: YtmmmpanpbphkdaaGreatDoorTotals.lean).
  GIVEN WITH THE SEED: the statements are not yours to turn. If you find one false, say at which input.
  Laid BY PROGRAM, IN A SANDBOX (cutbox-rows.mjs): the forced cells as the released guide's own fill.sh prints them over the translation 317369f272817a6a… (all of the seat's roots in one cut). By AI agents, Wed Nov 11 2026. No macro, syntax, notation, axiom, sorry.
-/
import Derived.Test.YtmmmpanpbphkdaaGreatDoorChecked
import GoSem.PinnedTables
import GoSem.Claim
import GoSem.ClaimJoined
import GoSem.ClaimMapViews
import Derived.JoinedTies
import Derived.KernelRfl
namespace Go.Proofs.YtmmmpanpbphkdaaGreatDoor
/- THE CELL 'sum', in the pinned program and in every row, IS THE sha256 OF THE DUMP (.gsa) THAT YtmmmpanpbphkdaaGreatDoorProg.lean LOADS. Nothing in Lean hashes anything: it is a label: what it is worth is what the hold of that sum in a sandbox is worth. -/
noncomputable def Tryz.pinned : Pinned := { name := "ytmmmpanpbphkdaagreatdoor", sum := "317369f272817a6a7cca88f8f9c4b49366c3892ab1a1351bd646e7673e394a0d", checked := Tryz.checked }
namespace Rows
def none {H : Type} : Left H := { results := [], args := [] }

/- WHAT THE LISTED PACKAGE-LEVEL VARIABLES READ AS WHEN THE CALL BEGINS. Each datum BY PROGRAM (the guide's laid-datum.mjs) off the statement by which the dump's own 'gosem.cut.vars' lays the variable. In a bare row this is a premise. The card (YtmmmpanpbphkdaaGreatDoorCards.lean) ties it to the program's text. -/
def laid_downspout_trace_steps {H : Type} : DataW H := .iface "func table" (.agg [.nil, .iface "func" (.lit (.string [100, 111, 119, 110, 115, 112, 111, 117, 116, 47, 116, 114, 97, 99, 101, 46, 115, 116, 101, 112, 115, 36, 49])), .iface "func" (.lit (.string [100, 111, 119, 110, 115, 112, 111, 117, 116, 47, 116, 114, 97, 99, 101, 46, 115, 116, 101, 112, 115, 36, 50])), .iface "func" (.lit (.string [100, 111, 119, 110, 115, 112, 111, 117, 116, 47, 116, 114, 97, 99, 101, 46, 115, 116, 101, 112, 115, 36, 51])), .iface "func" (.lit (.string [100, 111, 119, 110, 115, 112, 111, 117, 116, 47, 116, 114, 97, 99, 101, 46, 115, 116, 101, 112, 115, 36, 52])), .iface "func" (.lit (.string [100, 111, 119, 110, 115, 112, 111, 117, 116, 47, 116, 114, 97, 99, 101, 46, 98, 97, 99, 107])), .iface "func" (.lit (.string [100, 111, 119, 110, 115, 112, 111, 117, 116, 47, 116, 114, 97, 99, 101, 46, 115, 116, 101, 112, 115, 36, 53]))])
def laid_unicode_utf8_acceptRanges {H : Type} : DataW H := .agg [.agg [.lit (.int .u8 128), .lit (.int .u8 191)], .agg [.lit (.int .u8 160), .lit (.int .u8 191)], .agg [.lit (.int .u8 128), .lit (.int .u8 159)], .agg [.lit (.int .u8 144), .lit (.int .u8 191)], .agg [.lit (.int .u8 128), .lit (.int .u8 143)], .agg [.lit (.int .u8 0), .lit (.int .u8 0)], .agg [.lit (.int .u8 0), .lit (.int .u8 0)], .agg [.lit (.int .u8 0), .lit (.int .u8 0)], .agg [.lit (.int .u8 0), .lit (.int .u8 0)], .agg [.lit (.int .u8 0), .lit (.int .u8 0)], .agg [.lit (.int .u8 0), .lit (.int .u8 0)], .agg [.lit (.int .u8 0), .lit (.int .u8 0)], .agg [.lit (.int .u8 0), .lit (.int .u8 0)], .agg [.lit (.int .u8 0), .lit (.int .u8 0)], .agg [.lit (.int .u8 0), .lit (.int .u8 0)], .agg [.lit (.int .u8 0), .lit (.int .u8 0)]]
/-- One of Go's own tables, pinned by name: the form's constant. -/
def laid_unicode_utf8_first : DataW Unit := Go.Pinned.utf8First

/-- 'downspoutlaw30.CostAdds': WHATEVER THE INPUT: true; the input reads as it did. -/
def costAddsSpec : ChangeSpec := { name := "costAdds", fn := fun _ => fun
  | [d1, d2] => { results := [.lit (.bool true)], args := [d1, d2] }
  | _ => none }
def costAddsRow : OpenClaim := { program := "ytmmmpanpbphkdaagreatdoor", sum := "317369f272817a6a7cca88f8f9c4b49366c3892ab1a1351bd646e7673e394a0d", func := "downspout/downspoutlaw30.CostAdds", spec := "costAdds", inPlace := ["internal/bytealg.abigen_runtime_cmpstring"], unfollowed := true, recurses := true, named := ["downspout/trace.steps"], apart := false, laid := [("downspout/trace.steps", laid_downspout_trace_steps)] }
def CostAddsSaid : Prop := costAddsRow.holds Tryz.pinned (OpenSpec.ofChange costAddsSpec)

/-- ITS FALSE NEIGHBOUR: 'it returns false'. Refute it at one input. -/
def costAddsWrong : ChangeSpec := { name := "costAdds", fn := fun _ => fun
  | [d1, d2] => { results := [.lit (.bool false)], args := [d1, d2] }
  | _ => none }
def CostAddsWrongFalsely : Prop := costAddsRow.holds Tryz.pinned (OpenSpec.ofChange costAddsWrong)

/-- 'downspoutlaw12.TreeMatchesReference': WHATEVER THE INPUT: true; the input reads as it did. -/
def treeMatchesReferenceSpec : ChangeSpec := { name := "treeMatchesReference", fn := fun _ => fun
  | [d1, d2, d3] => { results := [.lit (.bool true)], args := [d1, d2, d3] }
  | _ => none }
def treeMatchesReferenceRow : OpenClaim := { program := "ytmmmpanpbphkdaagreatdoor", sum := "317369f272817a6a7cca88f8f9c4b49366c3892ab1a1351bd646e7673e394a0d", func := "downspout/downspoutlaw12.TreeMatchesReference", spec := "treeMatchesReference", inPlace := ["internal/bytealg.abigen_runtime_cmpstring", "internal/bytealg.IndexByteString", "internal/bytealg.IndexString"], unfollowed := true, recurses := true, named := ["downspout/trace.steps", "internal/bytealg.MaxLen", "unicode/utf8.first", "unicode/utf8.acceptRanges"], apart := false, laid := [("unicode/utf8.acceptRanges", laid_unicode_utf8_acceptRanges), ("downspout/trace.steps", laid_downspout_trace_steps), ("unicode/utf8.first", laid_unicode_utf8_first)] }
def TreeMatchesReferenceSaid : Prop := treeMatchesReferenceRow.holds Tryz.pinned (OpenSpec.ofChange treeMatchesReferenceSpec)

/-- ITS FALSE NEIGHBOUR: 'it returns false'. Refute it at one input. -/
def treeMatchesReferenceWrong : ChangeSpec := { name := "treeMatchesReference", fn := fun _ => fun
  | [d1, d2, d3] => { results := [.lit (.bool false)], args := [d1, d2, d3] }
  | _ => none }
def TreeMatchesReferenceWrongFalsely : Prop := treeMatchesReferenceRow.holds Tryz.pinned (OpenSpec.ofChange treeMatchesReferenceWrong)

/-- 'downspoutlaw12.TreeReads': WHATEVER THE INPUT: true; the input reads as it did. -/
def treeReadsSpec : ChangeSpec := { name := "treeReads", fn := fun _ => fun
  | [d1, d2, d3] => { results := [.lit (.bool true)], args := [d1, d2, d3] }
  | _ => none }
def treeReadsRow : OpenClaim := { program := "ytmmmpanpbphkdaagreatdoor", sum := "317369f272817a6a7cca88f8f9c4b49366c3892ab1a1351bd646e7673e394a0d", func := "downspout/downspoutlaw12.TreeReads", spec := "treeReads", inPlace := ["internal/bytealg.abigen_runtime_cmpstring", "internal/bytealg.IndexByteString", "internal/bytealg.IndexString"], unfollowed := true, recurses := true, named := ["downspout/trace.steps", "internal/bytealg.MaxLen", "unicode/utf8.first", "unicode/utf8.acceptRanges"], apart := false, laid := [("unicode/utf8.acceptRanges", laid_unicode_utf8_acceptRanges), ("downspout/trace.steps", laid_downspout_trace_steps), ("unicode/utf8.first", laid_unicode_utf8_first)] }
def TreeReadsSaid : Prop := treeReadsRow.holds Tryz.pinned (OpenSpec.ofChange treeReadsSpec)

/-- ITS FALSE NEIGHBOUR: 'it returns false'. Refute it at one input. -/
def treeReadsWrong : ChangeSpec := { name := "treeReads", fn := fun _ => fun
  | [d1, d2, d3] => { results := [.lit (.bool false)], args := [d1, d2, d3] }
  | _ => none }
def TreeReadsWrongFalsely : Prop := treeReadsRow.holds Tryz.pinned (OpenSpec.ofChange treeReadsWrong)

/-- 'downspoutlaw12.TreeCounts': WHATEVER THE INPUT: true; the input reads as it did. -/
def treeCountsSpec : ChangeSpec := { name := "treeCounts", fn := fun _ => fun
  | [d1, d2] => { results := [.lit (.bool true)], args := [d1, d2] }
  | _ => none }
def treeCountsRow : OpenClaim := { program := "ytmmmpanpbphkdaagreatdoor", sum := "317369f272817a6a7cca88f8f9c4b49366c3892ab1a1351bd646e7673e394a0d", func := "downspout/downspoutlaw12.TreeCounts", spec := "treeCounts", inPlace := ["internal/bytealg.abigen_runtime_cmpstring", "internal/bytealg.IndexByteString", "internal/bytealg.IndexString"], unfollowed := true, recurses := true, named := ["downspout/trace.steps", "internal/bytealg.MaxLen", "unicode/utf8.first", "unicode/utf8.acceptRanges"], apart := false, laid := [("unicode/utf8.acceptRanges", laid_unicode_utf8_acceptRanges), ("downspout/trace.steps", laid_downspout_trace_steps), ("unicode/utf8.first", laid_unicode_utf8_first)] }
def TreeCountsSaid : Prop := treeCountsRow.holds Tryz.pinned (OpenSpec.ofChange treeCountsSpec)

/-- ITS FALSE NEIGHBOUR: 'it returns false'. Refute it at one input. -/
def treeCountsWrong : ChangeSpec := { name := "treeCounts", fn := fun _ => fun
  | [d1, d2] => { results := [.lit (.bool false)], args := [d1, d2] }
  | _ => none }
def TreeCountsWrongFalsely : Prop := treeCountsRow.holds Tryz.pinned (OpenSpec.ofChange treeCountsWrong)

/-- 'downspoutlaw12.TreeParts': WHATEVER THE INPUT: true; the input reads as it did. -/
def treePartsSpec : ChangeSpec := { name := "treeParts", fn := fun _ => fun
  | [d1, d2] => { results := [.lit (.bool true)], args := [d1, d2] }
  | _ => none }
def treePartsRow : OpenClaim := { program := "ytmmmpanpbphkdaagreatdoor", sum := "317369f272817a6a7cca88f8f9c4b49366c3892ab1a1351bd646e7673e394a0d", func := "downspout/downspoutlaw12.TreeParts", spec := "treeParts", inPlace := ["internal/bytealg.abigen_runtime_cmpstring", "internal/bytealg.IndexByteString", "internal/bytealg.IndexString"], unfollowed := true, recurses := true, named := ["downspout/trace.steps", "internal/bytealg.MaxLen", "unicode/utf8.first", "unicode/utf8.acceptRanges"], apart := false, laid := [("unicode/utf8.acceptRanges", laid_unicode_utf8_acceptRanges), ("downspout/trace.steps", laid_downspout_trace_steps), ("unicode/utf8.first", laid_unicode_utf8_first)] }
def TreePartsSaid : Prop := treePartsRow.holds Tryz.pinned (OpenSpec.ofChange treePartsSpec)

/-- ITS FALSE NEIGHBOUR: 'it returns false'. Refute it at one input. -/
def treePartsWrong : ChangeSpec := { name := "treeParts", fn := fun _ => fun
  | [d1, d2] => { results := [.lit (.bool false)], args := [d1, d2] }
  | _ => none }
def TreePartsWrongFalsely : Prop := treePartsRow.holds Tryz.pinned (OpenSpec.ofChange treePartsWrong)

/-- 'downspoutlaw12.TreeLost': WHATEVER THE INPUT: true; the input reads as it did. -/
def treeLostSpec : ChangeSpec := { name := "treeLost", fn := fun _ => fun
  | [d1, d2, d3] => { results := [.lit (.bool true)], args := [d1, d2, d3] }
  | _ => none }
def treeLostRow : OpenClaim := { program := "ytmmmpanpbphkdaagreatdoor", sum := "317369f272817a6a7cca88f8f9c4b49366c3892ab1a1351bd646e7673e394a0d", func := "downspout/downspoutlaw12.TreeLost", spec := "treeLost", inPlace := ["internal/bytealg.abigen_runtime_cmpstring", "internal/bytealg.IndexByteString", "internal/bytealg.IndexString"], unfollowed := true, recurses := true, named := ["downspout/trace.steps", "internal/bytealg.MaxLen", "unicode/utf8.first", "unicode/utf8.acceptRanges"], apart := false, laid := [("unicode/utf8.acceptRanges", laid_unicode_utf8_acceptRanges), ("downspout/trace.steps", laid_downspout_trace_steps), ("unicode/utf8.first", laid_unicode_utf8_first)] }
def TreeLostSaid : Prop := treeLostRow.holds Tryz.pinned (OpenSpec.ofChange treeLostSpec)

/-- ITS FALSE NEIGHBOUR: 'it returns false'. Refute it at one input. -/
def treeLostWrong : ChangeSpec := { name := "treeLost", fn := fun _ => fun
  | [d1, d2, d3] => { results := [.lit (.bool false)], args := [d1, d2, d3] }
  | _ => none }
def TreeLostWrongFalsely : Prop := treeLostRow.holds Tryz.pinned (OpenSpec.ofChange treeLostWrong)

/-- 'downspoutlaw12.TreeShapes': WHATEVER THE INPUT: true; the input reads as it did. -/
def treeShapesSpec : ChangeSpec := { name := "treeShapes", fn := fun _ => fun
  | [d1, d2, d3] => { results := [.lit (.bool true)], args := [d1, d2, d3] }
  | _ => none }
def treeShapesRow : OpenClaim := { program := "ytmmmpanpbphkdaagreatdoor", sum := "317369f272817a6a7cca88f8f9c4b49366c3892ab1a1351bd646e7673e394a0d", func := "downspout/downspoutlaw12.TreeShapes", spec := "treeShapes", inPlace := ["internal/bytealg.abigen_runtime_cmpstring", "internal/bytealg.IndexByteString", "internal/bytealg.IndexString"], unfollowed := true, recurses := true, named := ["downspout/trace.steps", "internal/bytealg.MaxLen", "unicode/utf8.first", "unicode/utf8.acceptRanges"], apart := false, laid := [("unicode/utf8.acceptRanges", laid_unicode_utf8_acceptRanges), ("downspout/trace.steps", laid_downspout_trace_steps), ("unicode/utf8.first", laid_unicode_utf8_first)] }
def TreeShapesSaid : Prop := treeShapesRow.holds Tryz.pinned (OpenSpec.ofChange treeShapesSpec)

/-- ITS FALSE NEIGHBOUR: 'it returns false'. Refute it at one input. -/
def treeShapesWrong : ChangeSpec := { name := "treeShapes", fn := fun _ => fun
  | [d1, d2, d3] => { results := [.lit (.bool false)], args := [d1, d2, d3] }
  | _ => none }
def TreeShapesWrongFalsely : Prop := treeShapesRow.holds Tryz.pinned (OpenSpec.ofChange treeShapesWrong)

/-- 'downspoutlaw12.TreeAdds': WHATEVER THE INPUT: true; the input reads as it did. -/
def treeAddsSpec : ChangeSpec := { name := "treeAdds", fn := fun _ => fun
  | [d1, d2, d3] => { results := [.lit (.bool true)], args := [d1, d2, d3] }
  | _ => none }
def treeAddsRow : OpenClaim := { program := "ytmmmpanpbphkdaagreatdoor", sum := "317369f272817a6a7cca88f8f9c4b49366c3892ab1a1351bd646e7673e394a0d", func := "downspout/downspoutlaw12.TreeAdds", spec := "treeAdds", inPlace := ["internal/bytealg.abigen_runtime_cmpstring", "internal/bytealg.IndexByteString", "internal/bytealg.IndexString"], unfollowed := true, recurses := true, named := ["downspout/trace.steps", "internal/bytealg.MaxLen", "unicode/utf8.first", "unicode/utf8.acceptRanges"], apart := false, laid := [("unicode/utf8.acceptRanges", laid_unicode_utf8_acceptRanges), ("downspout/trace.steps", laid_downspout_trace_steps), ("unicode/utf8.first", laid_unicode_utf8_first)] }
def TreeAddsSaid : Prop := treeAddsRow.holds Tryz.pinned (OpenSpec.ofChange treeAddsSpec)

/-- ITS FALSE NEIGHBOUR: 'it returns false'. Refute it at one input. -/
def treeAddsWrong : ChangeSpec := { name := "treeAdds", fn := fun _ => fun
  | [d1, d2, d3] => { results := [.lit (.bool false)], args := [d1, d2, d3] }
  | _ => none }
def TreeAddsWrongFalsely : Prop := treeAddsRow.holds Tryz.pinned (OpenSpec.ofChange treeAddsWrong)

/-- 'downspoutlaw12.TreeKeeps': WHATEVER THE INPUT: true; the input reads as it did. -/
def treeKeepsSpec : ChangeSpec := { name := "treeKeeps", fn := fun _ => fun
  | [d1, d2] => { results := [.lit (.bool true)], args := [d1, d2] }
  | _ => none }
def treeKeepsRow : OpenClaim := { program := "ytmmmpanpbphkdaagreatdoor", sum := "317369f272817a6a7cca88f8f9c4b49366c3892ab1a1351bd646e7673e394a0d", func := "downspout/downspoutlaw12.TreeKeeps", spec := "treeKeeps", inPlace := ["internal/bytealg.abigen_runtime_cmpstring", "internal/bytealg.IndexByteString", "internal/bytealg.IndexString"], unfollowed := true, recurses := true, named := ["downspout/trace.steps", "internal/bytealg.MaxLen", "unicode/utf8.first", "unicode/utf8.acceptRanges"], apart := false, laid := [("unicode/utf8.acceptRanges", laid_unicode_utf8_acceptRanges), ("downspout/trace.steps", laid_downspout_trace_steps), ("unicode/utf8.first", laid_unicode_utf8_first)] }
def TreeKeepsSaid : Prop := treeKeepsRow.holds Tryz.pinned (OpenSpec.ofChange treeKeepsSpec)

/-- ITS FALSE NEIGHBOUR: 'it returns false'. Refute it at one input. -/
def treeKeepsWrong : ChangeSpec := { name := "treeKeeps", fn := fun _ => fun
  | [d1, d2] => { results := [.lit (.bool false)], args := [d1, d2] }
  | _ => none }
def TreeKeepsWrongFalsely : Prop := treeKeepsRow.holds Tryz.pinned (OpenSpec.ofChange treeKeepsWrong)

/- THE SECOND FORM. 'bulk': how many values and letters a reading holds, each counted each time it is reached (what is shared counts as often as it is met; a slice's spare places count too). A statement '..UptoSaid' is the law's where the arguments, and the package variables that the reading takes, are together of bulk at most 1048576: NARROWER than '..Said'. Prove '..Said' where nothing that the law and all that it calls make is longer than what came in: it says more and counts as full. Else prove '..UptoSaid'. A law counts once. -/
mutual
def uptoBulk {H : Type} : DataW H → Nat
  | .lit (.string bytes) => bytes.length + 1
  | .lit _ => 1
  | .nil => 1
  | .ptr d => uptoBulk d + 1
  | .slice elems spare => uptoBulkAll elems + uptoBulkAll spare + 1
  | .agg parts => uptoBulkAll parts + 1
  | .iface _ d => uptoBulk d + 1
  | .map entries => uptoBulkEntries entries + 1
  | .held _ => 1
def uptoBulkAll {H : Type} : List (DataW H) → Nat
  | [] => 0
  | d :: r => uptoBulk d + uptoBulkAll r
def uptoBulkEntries {H : Type} : List (Lit × DataW H) → Nat
  | [] => 0
  | x :: r => uptoBulkEntry x + uptoBulkEntries r
def uptoBulkEntry {H : Type} : Lit × DataW H → Nat
  | (.string bytes, d) => bytes.length + uptoBulk d + 1
  | (_, d) => uptoBulk d + 1
 end
def uptoSmall : (H : Type) → List (DataW H) → Bool := fun _ ds => decide (uptoBulkAll ds ≤ 1048576)
def OpenSpec.upto (s : _root_.Go.ChangeSpec) : _root_.Go.OpenSpec := { _root_.Go.OpenSpec.ofChange s with cond := some uptoSmall }

/-- 'downspoutlaw30.CostAdds', WHERE WHAT IT READS IS OF BULK AT MOST 1048576: true; the input reads as it did. -/
def costAddsUptoRow : OpenClaim := { program := "ytmmmpanpbphkdaagreatdoor", sum := "317369f272817a6a7cca88f8f9c4b49366c3892ab1a1351bd646e7673e394a0d", func := "downspout/downspoutlaw30.CostAdds", spec := "costAdds", inPlace := ["internal/bytealg.abigen_runtime_cmpstring"], unfollowed := true, recurses := true, named := ["downspout/trace.steps"], apart := false, laid := [("downspout/trace.steps", laid_downspout_trace_steps)], narrowed := true }
def CostAddsUptoSaid : Prop := costAddsUptoRow.holds Tryz.pinned (OpenSpec.upto costAddsSpec)

/-- 'downspoutlaw12.TreeMatchesReference', WHERE WHAT IT READS IS OF BULK AT MOST 1048576: true; the input reads as it did. -/
def treeMatchesReferenceUptoRow : OpenClaim := { program := "ytmmmpanpbphkdaagreatdoor", sum := "317369f272817a6a7cca88f8f9c4b49366c3892ab1a1351bd646e7673e394a0d", func := "downspout/downspoutlaw12.TreeMatchesReference", spec := "treeMatchesReference", inPlace := ["internal/bytealg.abigen_runtime_cmpstring", "internal/bytealg.IndexByteString", "internal/bytealg.IndexString"], unfollowed := true, recurses := true, named := ["downspout/trace.steps", "internal/bytealg.MaxLen", "unicode/utf8.first", "unicode/utf8.acceptRanges"], apart := false, laid := [("unicode/utf8.acceptRanges", laid_unicode_utf8_acceptRanges), ("downspout/trace.steps", laid_downspout_trace_steps), ("unicode/utf8.first", laid_unicode_utf8_first)], narrowed := true }
def TreeMatchesReferenceUptoSaid : Prop := treeMatchesReferenceUptoRow.holds Tryz.pinned (OpenSpec.upto treeMatchesReferenceSpec)

/-- 'downspoutlaw12.TreeReads', WHERE WHAT IT READS IS OF BULK AT MOST 1048576: true; the input reads as it did. -/
def treeReadsUptoRow : OpenClaim := { program := "ytmmmpanpbphkdaagreatdoor", sum := "317369f272817a6a7cca88f8f9c4b49366c3892ab1a1351bd646e7673e394a0d", func := "downspout/downspoutlaw12.TreeReads", spec := "treeReads", inPlace := ["internal/bytealg.abigen_runtime_cmpstring", "internal/bytealg.IndexByteString", "internal/bytealg.IndexString"], unfollowed := true, recurses := true, named := ["downspout/trace.steps", "internal/bytealg.MaxLen", "unicode/utf8.first", "unicode/utf8.acceptRanges"], apart := false, laid := [("unicode/utf8.acceptRanges", laid_unicode_utf8_acceptRanges), ("downspout/trace.steps", laid_downspout_trace_steps), ("unicode/utf8.first", laid_unicode_utf8_first)], narrowed := true }
def TreeReadsUptoSaid : Prop := treeReadsUptoRow.holds Tryz.pinned (OpenSpec.upto treeReadsSpec)

/-- 'downspoutlaw12.TreeCounts', WHERE WHAT IT READS IS OF BULK AT MOST 1048576: true; the input reads as it did. -/
def treeCountsUptoRow : OpenClaim := { program := "ytmmmpanpbphkdaagreatdoor", sum := "317369f272817a6a7cca88f8f9c4b49366c3892ab1a1351bd646e7673e394a0d", func := "downspout/downspoutlaw12.TreeCounts", spec := "treeCounts", inPlace := ["internal/bytealg.abigen_runtime_cmpstring", "internal/bytealg.IndexByteString", "internal/bytealg.IndexString"], unfollowed := true, recurses := true, named := ["downspout/trace.steps", "internal/bytealg.MaxLen", "unicode/utf8.first", "unicode/utf8.acceptRanges"], apart := false, laid := [("unicode/utf8.acceptRanges", laid_unicode_utf8_acceptRanges), ("downspout/trace.steps", laid_downspout_trace_steps), ("unicode/utf8.first", laid_unicode_utf8_first)], narrowed := true }
def TreeCountsUptoSaid : Prop := treeCountsUptoRow.holds Tryz.pinned (OpenSpec.upto treeCountsSpec)

/-- 'downspoutlaw12.TreeParts', WHERE WHAT IT READS IS OF BULK AT MOST 1048576: true; the input reads as it did. -/
def treePartsUptoRow : OpenClaim := { program := "ytmmmpanpbphkdaagreatdoor", sum := "317369f272817a6a7cca88f8f9c4b49366c3892ab1a1351bd646e7673e394a0d", func := "downspout/downspoutlaw12.TreeParts", spec := "treeParts", inPlace := ["internal/bytealg.abigen_runtime_cmpstring", "internal/bytealg.IndexByteString", "internal/bytealg.IndexString"], unfollowed := true, recurses := true, named := ["downspout/trace.steps", "internal/bytealg.MaxLen", "unicode/utf8.first", "unicode/utf8.acceptRanges"], apart := false, laid := [("unicode/utf8.acceptRanges", laid_unicode_utf8_acceptRanges), ("downspout/trace.steps", laid_downspout_trace_steps), ("unicode/utf8.first", laid_unicode_utf8_first)], narrowed := true }
def TreePartsUptoSaid : Prop := treePartsUptoRow.holds Tryz.pinned (OpenSpec.upto treePartsSpec)

/-- 'downspoutlaw12.TreeLost', WHERE WHAT IT READS IS OF BULK AT MOST 1048576: true; the input reads as it did. -/
def treeLostUptoRow : OpenClaim := { program := "ytmmmpanpbphkdaagreatdoor", sum := "317369f272817a6a7cca88f8f9c4b49366c3892ab1a1351bd646e7673e394a0d", func := "downspout/downspoutlaw12.TreeLost", spec := "treeLost", inPlace := ["internal/bytealg.abigen_runtime_cmpstring", "internal/bytealg.IndexByteString", "internal/bytealg.IndexString"], unfollowed := true, recurses := true, named := ["downspout/trace.steps", "internal/bytealg.MaxLen", "unicode/utf8.first", "unicode/utf8.acceptRanges"], apart := false, laid := [("unicode/utf8.acceptRanges", laid_unicode_utf8_acceptRanges), ("downspout/trace.steps", laid_downspout_trace_steps), ("unicode/utf8.first", laid_unicode_utf8_first)], narrowed := true }
def TreeLostUptoSaid : Prop := treeLostUptoRow.holds Tryz.pinned (OpenSpec.upto treeLostSpec)

/-- 'downspoutlaw12.TreeShapes', WHERE WHAT IT READS IS OF BULK AT MOST 1048576: true; the input reads as it did. -/
def treeShapesUptoRow : OpenClaim := { program := "ytmmmpanpbphkdaagreatdoor", sum := "317369f272817a6a7cca88f8f9c4b49366c3892ab1a1351bd646e7673e394a0d", func := "downspout/downspoutlaw12.TreeShapes", spec := "treeShapes", inPlace := ["internal/bytealg.abigen_runtime_cmpstring", "internal/bytealg.IndexByteString", "internal/bytealg.IndexString"], unfollowed := true, recurses := true, named := ["downspout/trace.steps", "internal/bytealg.MaxLen", "unicode/utf8.first", "unicode/utf8.acceptRanges"], apart := false, laid := [("unicode/utf8.acceptRanges", laid_unicode_utf8_acceptRanges), ("downspout/trace.steps", laid_downspout_trace_steps), ("unicode/utf8.first", laid_unicode_utf8_first)], narrowed := true }
def TreeShapesUptoSaid : Prop := treeShapesUptoRow.holds Tryz.pinned (OpenSpec.upto treeShapesSpec)

/-- 'downspoutlaw12.TreeAdds', WHERE WHAT IT READS IS OF BULK AT MOST 1048576: true; the input reads as it did. -/
def treeAddsUptoRow : OpenClaim := { program := "ytmmmpanpbphkdaagreatdoor", sum := "317369f272817a6a7cca88f8f9c4b49366c3892ab1a1351bd646e7673e394a0d", func := "downspout/downspoutlaw12.TreeAdds", spec := "treeAdds", inPlace := ["internal/bytealg.abigen_runtime_cmpstring", "internal/bytealg.IndexByteString", "internal/bytealg.IndexString"], unfollowed := true, recurses := true, named := ["downspout/trace.steps", "internal/bytealg.MaxLen", "unicode/utf8.first", "unicode/utf8.acceptRanges"], apart := false, laid := [("unicode/utf8.acceptRanges", laid_unicode_utf8_acceptRanges), ("downspout/trace.steps", laid_downspout_trace_steps), ("unicode/utf8.first", laid_unicode_utf8_first)], narrowed := true }
def TreeAddsUptoSaid : Prop := treeAddsUptoRow.holds Tryz.pinned (OpenSpec.upto treeAddsSpec)

/-- 'downspoutlaw12.TreeKeeps', WHERE WHAT IT READS IS OF BULK AT MOST 1048576: true; the input reads as it did. -/
def treeKeepsUptoRow : OpenClaim := { program := "ytmmmpanpbphkdaagreatdoor", sum := "317369f272817a6a7cca88f8f9c4b49366c3892ab1a1351bd646e7673e394a0d", func := "downspout/downspoutlaw12.TreeKeeps", spec := "treeKeeps", inPlace := ["internal/bytealg.abigen_runtime_cmpstring", "internal/bytealg.IndexByteString", "internal/bytealg.IndexString"], unfollowed := true, recurses := true, named := ["downspout/trace.steps", "internal/bytealg.MaxLen", "unicode/utf8.first", "unicode/utf8.acceptRanges"], apart := false, laid := [("unicode/utf8.acceptRanges", laid_unicode_utf8_acceptRanges), ("downspout/trace.steps", laid_downspout_trace_steps), ("unicode/utf8.first", laid_unicode_utf8_first)], narrowed := true }
def TreeKeepsUptoSaid : Prop := treeKeepsUptoRow.holds Tryz.pinned (OpenSpec.upto treeKeepsSpec)

end Rows
end Go.Proofs.YtmmmpanpbphkdaaGreatDoor
