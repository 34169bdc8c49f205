/-
  NARROWER THAN 'FOR EVERY INPUT', by the rows' own cells (each row's printed sentence says how): QuotaMatchesReference: laid · QuotaValid: laid · QuotaSums: laid · QuotaFits: laid · QuotaAllows: laid · QuotaSets: laid · QuotaMoves: laid · QuotaRefuses: laid.
  DERIVED. THE GIVEN ROWS OF THIS SEAT. 8 by the template 'for every input the law returns true; each argument reads behind the call as it read before'; 0 by the template 'total and deterministic' (their statements: YtdkniplokbpolaaGreatDoorTotals.lean).
  GIVEN WITH THE SEED: the statements are not yours to turn. If you find one false, say at which input.
  Laid BY PROGRAM, IN A SANDBOX (cutbox-rows.mjs): the forced cells as the released guide's own fill.sh prints them over the translation e9e955d53bae6ce7… (all of the seat's roots in one cut). By AI agents, Wed Nov 11 2026. No macro, syntax, notation, axiom, sorry.
-/
import Derived.Test.YtdkniplokbpolaaGreatDoorChecked
import GoSem.PinnedTables
import GoSem.Claim
import GoSem.ClaimJoined
import GoSem.ClaimMapViews
import Derived.JoinedTies
import Derived.KernelRfl
namespace Go.Proofs.YtdkniplokbpolaaGreatDoor
/- THE CELL 'sum', in the pinned program and in every row, IS THE sha256 OF THE DUMP (.gsa) THAT YtdkniplokbpolaaGreatDoorProg.lean LOADS. Nothing in Lean hashes anything: it is a label: what it is worth is what the hold of that sum in a sandbox is worth. -/
noncomputable def Tryz.pinned : Pinned := { name := "ytdkniplokbpolaagreatdoor", sum := "e9e955d53bae6ce768d42bb7a97c557ceb538578c9fff65b45d9c950275a4512", checked := Tryz.checked }
namespace Rows
def none {H : Type} : Left H := { results := [], args := [] }

/- WHAT THE LISTED PACKAGE-LEVEL VARIABLES READ AS WHEN THE CALL BEGINS. Each datum BY PROGRAM (the guide's laid-datum.mjs) off the statement by which the dump's own 'gosem.cut.vars' lays the variable. In a bare row this is a premise. The card (YtdkniplokbpolaaGreatDoorCards.lean) ties it to the program's text. -/
def laid_unicode_utf8_acceptRanges {H : Type} : DataW H := .agg [.agg [.lit (.int .u8 128), .lit (.int .u8 191)], .agg [.lit (.int .u8 160), .lit (.int .u8 191)], .agg [.lit (.int .u8 128), .lit (.int .u8 159)], .agg [.lit (.int .u8 144), .lit (.int .u8 191)], .agg [.lit (.int .u8 128), .lit (.int .u8 143)], .agg [.lit (.int .u8 0), .lit (.int .u8 0)], .agg [.lit (.int .u8 0), .lit (.int .u8 0)], .agg [.lit (.int .u8 0), .lit (.int .u8 0)], .agg [.lit (.int .u8 0), .lit (.int .u8 0)], .agg [.lit (.int .u8 0), .lit (.int .u8 0)], .agg [.lit (.int .u8 0), .lit (.int .u8 0)], .agg [.lit (.int .u8 0), .lit (.int .u8 0)], .agg [.lit (.int .u8 0), .lit (.int .u8 0)], .agg [.lit (.int .u8 0), .lit (.int .u8 0)], .agg [.lit (.int .u8 0), .lit (.int .u8 0)], .agg [.lit (.int .u8 0), .lit (.int .u8 0)]]
/-- One of Go's own tables, pinned by name: the form's constant. -/
def laid_unicode_utf8_first : DataW Unit := Go.Pinned.utf8First

/-- 'downspoutlaw20.QuotaMatchesReference': WHATEVER THE INPUT: true; the input reads as it did. -/
def quotaMatchesReferenceSpec : ChangeSpec := { name := "quotaMatchesReference", fn := fun _ => fun
  | [d1, d2, d3] => { results := [.lit (.bool true)], args := [d1, d2, d3] }
  | _ => none }
def quotaMatchesReferenceRow : OpenClaim := { program := "ytdkniplokbpolaagreatdoor", sum := "e9e955d53bae6ce768d42bb7a97c557ceb538578c9fff65b45d9c950275a4512", func := "downspout/downspoutlaw20.QuotaMatchesReference", spec := "quotaMatchesReference", inPlace := ["internal/bytealg.abigen_runtime_cmpstring", "internal/bytealg.IndexByteString", "internal/bytealg.IndexString", "slices.overlaps[downspout/api.Quota]"], unfollowed := true, recurses := true, named := ["internal/bytealg.MaxLen", "unicode/utf8.first", "unicode/utf8.acceptRanges"], apart := false, laid := [("unicode/utf8.acceptRanges", laid_unicode_utf8_acceptRanges), ("unicode/utf8.first", laid_unicode_utf8_first)] }
def QuotaMatchesReferenceSaid : Prop := quotaMatchesReferenceRow.holds Tryz.pinned (OpenSpec.ofChange quotaMatchesReferenceSpec)

/-- ITS FALSE NEIGHBOUR: 'it returns false'. Refute it at one input. -/
def quotaMatchesReferenceWrong : ChangeSpec := { name := "quotaMatchesReference", fn := fun _ => fun
  | [d1, d2, d3] => { results := [.lit (.bool false)], args := [d1, d2, d3] }
  | _ => none }
def QuotaMatchesReferenceWrongFalsely : Prop := quotaMatchesReferenceRow.holds Tryz.pinned (OpenSpec.ofChange quotaMatchesReferenceWrong)

/-- 'downspoutlaw20.QuotaValid': WHATEVER THE INPUT: true; the input reads as it did. -/
def quotaValidSpec : ChangeSpec := { name := "quotaValid", fn := fun _ => fun
  | [d1, d2, d3] => { results := [.lit (.bool true)], args := [d1, d2, d3] }
  | _ => none }
def quotaValidRow : OpenClaim := { program := "ytdkniplokbpolaagreatdoor", sum := "e9e955d53bae6ce768d42bb7a97c557ceb538578c9fff65b45d9c950275a4512", func := "downspout/downspoutlaw20.QuotaValid", spec := "quotaValid", inPlace := ["internal/bytealg.abigen_runtime_cmpstring", "internal/bytealg.IndexByteString", "internal/bytealg.IndexString", "slices.overlaps[downspout/api.Quota]"], unfollowed := true, recurses := true, named := ["internal/bytealg.MaxLen", "unicode/utf8.first", "unicode/utf8.acceptRanges"], apart := false, laid := [("unicode/utf8.acceptRanges", laid_unicode_utf8_acceptRanges), ("unicode/utf8.first", laid_unicode_utf8_first)] }
def QuotaValidSaid : Prop := quotaValidRow.holds Tryz.pinned (OpenSpec.ofChange quotaValidSpec)

/-- ITS FALSE NEIGHBOUR: 'it returns false'. Refute it at one input. -/
def quotaValidWrong : ChangeSpec := { name := "quotaValid", fn := fun _ => fun
  | [d1, d2, d3] => { results := [.lit (.bool false)], args := [d1, d2, d3] }
  | _ => none }
def QuotaValidWrongFalsely : Prop := quotaValidRow.holds Tryz.pinned (OpenSpec.ofChange quotaValidWrong)

/-- 'downspoutlaw20.QuotaSums': WHATEVER THE INPUT: true; the input reads as it did. -/
def quotaSumsSpec : ChangeSpec := { name := "quotaSums", fn := fun _ => fun
  | [d1, d2, d3] => { results := [.lit (.bool true)], args := [d1, d2, d3] }
  | _ => none }
def quotaSumsRow : OpenClaim := { program := "ytdkniplokbpolaagreatdoor", sum := "e9e955d53bae6ce768d42bb7a97c557ceb538578c9fff65b45d9c950275a4512", func := "downspout/downspoutlaw20.QuotaSums", spec := "quotaSums", inPlace := ["internal/bytealg.abigen_runtime_cmpstring", "internal/bytealg.IndexByteString", "internal/bytealg.IndexString", "slices.overlaps[downspout/api.Quota]"], unfollowed := true, recurses := true, named := ["internal/bytealg.MaxLen", "unicode/utf8.first", "unicode/utf8.acceptRanges"], apart := false, laid := [("unicode/utf8.acceptRanges", laid_unicode_utf8_acceptRanges), ("unicode/utf8.first", laid_unicode_utf8_first)] }
def QuotaSumsSaid : Prop := quotaSumsRow.holds Tryz.pinned (OpenSpec.ofChange quotaSumsSpec)

/-- ITS FALSE NEIGHBOUR: 'it returns false'. Refute it at one input. -/
def quotaSumsWrong : ChangeSpec := { name := "quotaSums", fn := fun _ => fun
  | [d1, d2, d3] => { results := [.lit (.bool false)], args := [d1, d2, d3] }
  | _ => none }
def QuotaSumsWrongFalsely : Prop := quotaSumsRow.holds Tryz.pinned (OpenSpec.ofChange quotaSumsWrong)

/-- 'downspoutlaw20.QuotaFits': WHATEVER THE INPUT: true; the input reads as it did. -/
def quotaFitsSpec : ChangeSpec := { name := "quotaFits", fn := fun _ => fun
  | [d1, d2, d3] => { results := [.lit (.bool true)], args := [d1, d2, d3] }
  | _ => none }
def quotaFitsRow : OpenClaim := { program := "ytdkniplokbpolaagreatdoor", sum := "e9e955d53bae6ce768d42bb7a97c557ceb538578c9fff65b45d9c950275a4512", func := "downspout/downspoutlaw20.QuotaFits", spec := "quotaFits", inPlace := ["internal/bytealg.abigen_runtime_cmpstring", "internal/bytealg.IndexByteString", "internal/bytealg.IndexString", "slices.overlaps[downspout/api.Quota]"], unfollowed := true, recurses := true, named := ["internal/bytealg.MaxLen", "unicode/utf8.first", "unicode/utf8.acceptRanges"], apart := false, laid := [("unicode/utf8.acceptRanges", laid_unicode_utf8_acceptRanges), ("unicode/utf8.first", laid_unicode_utf8_first)] }
def QuotaFitsSaid : Prop := quotaFitsRow.holds Tryz.pinned (OpenSpec.ofChange quotaFitsSpec)

/-- ITS FALSE NEIGHBOUR: 'it returns false'. Refute it at one input. -/
def quotaFitsWrong : ChangeSpec := { name := "quotaFits", fn := fun _ => fun
  | [d1, d2, d3] => { results := [.lit (.bool false)], args := [d1, d2, d3] }
  | _ => none }
def QuotaFitsWrongFalsely : Prop := quotaFitsRow.holds Tryz.pinned (OpenSpec.ofChange quotaFitsWrong)

/-- 'downspoutlaw20.QuotaAllows': WHATEVER THE INPUT: true; the input reads as it did. -/
def quotaAllowsSpec : ChangeSpec := { name := "quotaAllows", fn := fun _ => fun
  | [d1, d2, d3] => { results := [.lit (.bool true)], args := [d1, d2, d3] }
  | _ => none }
def quotaAllowsRow : OpenClaim := { program := "ytdkniplokbpolaagreatdoor", sum := "e9e955d53bae6ce768d42bb7a97c557ceb538578c9fff65b45d9c950275a4512", func := "downspout/downspoutlaw20.QuotaAllows", spec := "quotaAllows", inPlace := ["internal/bytealg.abigen_runtime_cmpstring", "internal/bytealg.IndexByteString", "internal/bytealg.IndexString", "slices.overlaps[downspout/api.Quota]"], unfollowed := true, recurses := true, named := ["internal/bytealg.MaxLen", "unicode/utf8.first", "unicode/utf8.acceptRanges"], apart := false, laid := [("unicode/utf8.acceptRanges", laid_unicode_utf8_acceptRanges), ("unicode/utf8.first", laid_unicode_utf8_first)] }
def QuotaAllowsSaid : Prop := quotaAllowsRow.holds Tryz.pinned (OpenSpec.ofChange quotaAllowsSpec)

/-- ITS FALSE NEIGHBOUR: 'it returns false'. Refute it at one input. -/
def quotaAllowsWrong : ChangeSpec := { name := "quotaAllows", fn := fun _ => fun
  | [d1, d2, d3] => { results := [.lit (.bool false)], args := [d1, d2, d3] }
  | _ => none }
def QuotaAllowsWrongFalsely : Prop := quotaAllowsRow.holds Tryz.pinned (OpenSpec.ofChange quotaAllowsWrong)

/-- 'downspoutlaw20.QuotaSets': WHATEVER THE INPUT: true; the input reads as it did. -/
def quotaSetsSpec : ChangeSpec := { name := "quotaSets", fn := fun _ => fun
  | [d1, d2] => { results := [.lit (.bool true)], args := [d1, d2] }
  | _ => none }
def quotaSetsRow : OpenClaim := { program := "ytdkniplokbpolaagreatdoor", sum := "e9e955d53bae6ce768d42bb7a97c557ceb538578c9fff65b45d9c950275a4512", func := "downspout/downspoutlaw20.QuotaSets", spec := "quotaSets", inPlace := ["internal/bytealg.abigen_runtime_cmpstring", "internal/bytealg.IndexByteString", "internal/bytealg.IndexString", "slices.overlaps[downspout/api.Quota]"], unfollowed := true, recurses := true, named := ["internal/bytealg.MaxLen", "unicode/utf8.first", "unicode/utf8.acceptRanges"], apart := false, laid := [("unicode/utf8.acceptRanges", laid_unicode_utf8_acceptRanges), ("unicode/utf8.first", laid_unicode_utf8_first)] }
def QuotaSetsSaid : Prop := quotaSetsRow.holds Tryz.pinned (OpenSpec.ofChange quotaSetsSpec)

/-- ITS FALSE NEIGHBOUR: 'it returns false'. Refute it at one input. -/
def quotaSetsWrong : ChangeSpec := { name := "quotaSets", fn := fun _ => fun
  | [d1, d2] => { results := [.lit (.bool false)], args := [d1, d2] }
  | _ => none }
def QuotaSetsWrongFalsely : Prop := quotaSetsRow.holds Tryz.pinned (OpenSpec.ofChange quotaSetsWrong)

/-- 'downspoutlaw20.QuotaMoves': WHATEVER THE INPUT: true; the input reads as it did. -/
def quotaMovesSpec : ChangeSpec := { name := "quotaMoves", fn := fun _ => fun
  | [d1, d2, d3] => { results := [.lit (.bool true)], args := [d1, d2, d3] }
  | _ => none }
def quotaMovesRow : OpenClaim := { program := "ytdkniplokbpolaagreatdoor", sum := "e9e955d53bae6ce768d42bb7a97c557ceb538578c9fff65b45d9c950275a4512", func := "downspout/downspoutlaw20.QuotaMoves", spec := "quotaMoves", inPlace := ["internal/bytealg.abigen_runtime_cmpstring", "internal/bytealg.IndexByteString", "internal/bytealg.IndexString", "slices.overlaps[downspout/api.Quota]"], unfollowed := true, recurses := true, named := ["internal/bytealg.MaxLen", "unicode/utf8.first", "unicode/utf8.acceptRanges"], apart := false, laid := [("unicode/utf8.acceptRanges", laid_unicode_utf8_acceptRanges), ("unicode/utf8.first", laid_unicode_utf8_first)] }
def QuotaMovesSaid : Prop := quotaMovesRow.holds Tryz.pinned (OpenSpec.ofChange quotaMovesSpec)

/-- ITS FALSE NEIGHBOUR: 'it returns false'. Refute it at one input. -/
def quotaMovesWrong : ChangeSpec := { name := "quotaMoves", fn := fun _ => fun
  | [d1, d2, d3] => { results := [.lit (.bool false)], args := [d1, d2, d3] }
  | _ => none }
def QuotaMovesWrongFalsely : Prop := quotaMovesRow.holds Tryz.pinned (OpenSpec.ofChange quotaMovesWrong)

/-- 'downspoutlaw20.QuotaRefuses': WHATEVER THE INPUT: true; the input reads as it did. -/
def quotaRefusesSpec : ChangeSpec := { name := "quotaRefuses", fn := fun _ => fun
  | [d1, d2] => { results := [.lit (.bool true)], args := [d1, d2] }
  | _ => none }
def quotaRefusesRow : OpenClaim := { program := "ytdkniplokbpolaagreatdoor", sum := "e9e955d53bae6ce768d42bb7a97c557ceb538578c9fff65b45d9c950275a4512", func := "downspout/downspoutlaw20.QuotaRefuses", spec := "quotaRefuses", inPlace := ["internal/bytealg.abigen_runtime_cmpstring", "internal/bytealg.IndexByteString", "internal/bytealg.IndexString", "slices.overlaps[downspout/api.Quota]"], unfollowed := true, recurses := true, named := ["internal/bytealg.MaxLen", "unicode/utf8.first", "unicode/utf8.acceptRanges"], apart := false, laid := [("unicode/utf8.acceptRanges", laid_unicode_utf8_acceptRanges), ("unicode/utf8.first", laid_unicode_utf8_first)] }
def QuotaRefusesSaid : Prop := quotaRefusesRow.holds Tryz.pinned (OpenSpec.ofChange quotaRefusesSpec)

/-- ITS FALSE NEIGHBOUR: 'it returns false'. Refute it at one input. -/
def quotaRefusesWrong : ChangeSpec := { name := "quotaRefuses", fn := fun _ => fun
  | [d1, d2] => { results := [.lit (.bool false)], args := [d1, d2] }
  | _ => none }
def QuotaRefusesWrongFalsely : Prop := quotaRefusesRow.holds Tryz.pinned (OpenSpec.ofChange quotaRefusesWrong)

/- THE SECOND FORM. 'bulk': how many values and letters a reading holds, each counted each time it is reached (what is shared counts as often as it is met; a slice's spare places count too). A statement '..UptoSaid' is the law's where the arguments, and the package variables that the reading takes, are together of bulk at most 1048576: NARROWER than '..Said'. Prove '..Said' where nothing that the law and all that it calls make is longer than what came in: it says more and counts as full. Else prove '..UptoSaid'. A law counts once. -/
mutual
def uptoBulk {H : Type} : DataW H → Nat
  | .lit (.string bytes) => bytes.length + 1
  | .lit _ => 1
  | .nil => 1
  | .ptr d => uptoBulk d + 1
  | .slice elems spare => uptoBulkAll elems + uptoBulkAll spare + 1
  | .agg parts => uptoBulkAll parts + 1
  | .iface _ d => uptoBulk d + 1
  | .map entries => uptoBulkEntries entries + 1
  | .held _ => 1
def uptoBulkAll {H : Type} : List (DataW H) → Nat
  | [] => 0
  | d :: r => uptoBulk d + uptoBulkAll r
def uptoBulkEntries {H : Type} : List (Lit × DataW H) → Nat
  | [] => 0
  | x :: r => uptoBulkEntry x + uptoBulkEntries r
def uptoBulkEntry {H : Type} : Lit × DataW H → Nat
  | (.string bytes, d) => bytes.length + uptoBulk d + 1
  | (_, d) => uptoBulk d + 1
 end
def uptoSmall : (H : Type) → List (DataW H) → Bool := fun _ ds => decide (uptoBulkAll ds ≤ 1048576)
def OpenSpec.upto (s : _root_.Go.ChangeSpec) : _root_.Go.OpenSpec := { _root_.Go.OpenSpec.ofChange s with cond := some uptoSmall }

/-- 'downspoutlaw20.QuotaMatchesReference', WHERE WHAT IT READS IS OF BULK AT MOST 1048576: true; the input reads as it did. -/
def quotaMatchesReferenceUptoRow : OpenClaim := { program := "ytdkniplokbpolaagreatdoor", sum := "e9e955d53bae6ce768d42bb7a97c557ceb538578c9fff65b45d9c950275a4512", func := "downspout/downspoutlaw20.QuotaMatchesReference", spec := "quotaMatchesReference", inPlace := ["internal/bytealg.abigen_runtime_cmpstring", "internal/bytealg.IndexByteString", "internal/bytealg.IndexString", "slices.overlaps[downspout/api.Quota]"], unfollowed := true, recurses := true, named := ["internal/bytealg.MaxLen", "unicode/utf8.first", "unicode/utf8.acceptRanges"], apart := false, laid := [("unicode/utf8.acceptRanges", laid_unicode_utf8_acceptRanges), ("unicode/utf8.first", laid_unicode_utf8_first)], narrowed := true }
def QuotaMatchesReferenceUptoSaid : Prop := quotaMatchesReferenceUptoRow.holds Tryz.pinned (OpenSpec.upto quotaMatchesReferenceSpec)

/-- 'downspoutlaw20.QuotaValid', WHERE WHAT IT READS IS OF BULK AT MOST 1048576: true; the input reads as it did. -/
def quotaValidUptoRow : OpenClaim := { program := "ytdkniplokbpolaagreatdoor", sum := "e9e955d53bae6ce768d42bb7a97c557ceb538578c9fff65b45d9c950275a4512", func := "downspout/downspoutlaw20.QuotaValid", spec := "quotaValid", inPlace := ["internal/bytealg.abigen_runtime_cmpstring", "internal/bytealg.IndexByteString", "internal/bytealg.IndexString", "slices.overlaps[downspout/api.Quota]"], unfollowed := true, recurses := true, named := ["internal/bytealg.MaxLen", "unicode/utf8.first", "unicode/utf8.acceptRanges"], apart := false, laid := [("unicode/utf8.acceptRanges", laid_unicode_utf8_acceptRanges), ("unicode/utf8.first", laid_unicode_utf8_first)], narrowed := true }
def QuotaValidUptoSaid : Prop := quotaValidUptoRow.holds Tryz.pinned (OpenSpec.upto quotaValidSpec)

/-- 'downspoutlaw20.QuotaSums', WHERE WHAT IT READS IS OF BULK AT MOST 1048576: true; the input reads as it did. -/
def quotaSumsUptoRow : OpenClaim := { program := "ytdkniplokbpolaagreatdoor", sum := "e9e955d53bae6ce768d42bb7a97c557ceb538578c9fff65b45d9c950275a4512", func := "downspout/downspoutlaw20.QuotaSums", spec := "quotaSums", inPlace := ["internal/bytealg.abigen_runtime_cmpstring", "internal/bytealg.IndexByteString", "internal/bytealg.IndexString", "slices.overlaps[downspout/api.Quota]"], unfollowed := true, recurses := true, named := ["internal/bytealg.MaxLen", "unicode/utf8.first", "unicode/utf8.acceptRanges"], apart := false, laid := [("unicode/utf8.acceptRanges", laid_unicode_utf8_acceptRanges), ("unicode/utf8.first", laid_unicode_utf8_first)], narrowed := true }
def QuotaSumsUptoSaid : Prop := quotaSumsUptoRow.holds Tryz.pinned (OpenSpec.upto quotaSumsSpec)

/-- 'downspoutlaw20.QuotaFits', WHERE WHAT IT READS IS OF BULK AT MOST 1048576: true; the input reads as it did. -/
def quotaFitsUptoRow : OpenClaim := { program := "ytdkniplokbpolaagreatdoor", sum := "e9e955d53bae6ce768d42bb7a97c557ceb538578c9fff65b45d9c950275a4512", func := "downspout/downspoutlaw20.QuotaFits", spec := "quotaFits", inPlace := ["internal/bytealg.abigen_runtime_cmpstring", "internal/bytealg.IndexByteString", "internal/bytealg.IndexString", "slices.overlaps[downspout/api.Quota]"], unfollowed := true, recurses := true, named := ["internal/bytealg.MaxLen", "unicode/utf8.first", "unicode/utf8.acceptRanges"], apart := false, laid := [("unicode/utf8.acceptRanges", laid_unicode_utf8_acceptRanges), ("unicode/utf8.first", laid_unicode_utf8_first)], narrowed := true }
def QuotaFitsUptoSaid : Prop := quotaFitsUptoRow.holds Tryz.pinned (OpenSpec.upto quotaFitsSpec)

/-- 'downspoutlaw20.QuotaAllows', WHERE WHAT IT READS IS OF BULK AT MOST 1048576: true; the input reads as it did. -/
def quotaAllowsUptoRow : OpenClaim := { program := "ytdkniplokbpolaagreatdoor", sum := "e9e955d53bae6ce768d42bb7a97c557ceb538578c9fff65b45d9c950275a4512", func := "downspout/downspoutlaw20.QuotaAllows", spec := "quotaAllows", inPlace := ["internal/bytealg.abigen_runtime_cmpstring", "internal/bytealg.IndexByteString", "internal/bytealg.IndexString", "slices.overlaps[downspout/api.Quota]"], unfollowed := true, recurses := true, named := ["internal/bytealg.MaxLen", "unicode/utf8.first", "unicode/utf8.acceptRanges"], apart := false, laid := [("unicode/utf8.acceptRanges", laid_unicode_utf8_acceptRanges), ("unicode/utf8.first", laid_unicode_utf8_first)], narrowed := true }
def QuotaAllowsUptoSaid : Prop := quotaAllowsUptoRow.holds Tryz.pinned (OpenSpec.upto quotaAllowsSpec)

/-- 'downspoutlaw20.QuotaSets', WHERE WHAT IT READS IS OF BULK AT MOST 1048576: true; the input reads as it did. -/
def quotaSetsUptoRow : OpenClaim := { program := "ytdkniplokbpolaagreatdoor", sum := "e9e955d53bae6ce768d42bb7a97c557ceb538578c9fff65b45d9c950275a4512", func := "downspout/downspoutlaw20.QuotaSets", spec := "quotaSets", inPlace := ["internal/bytealg.abigen_runtime_cmpstring", "internal/bytealg.IndexByteString", "internal/bytealg.IndexString", "slices.overlaps[downspout/api.Quota]"], unfollowed := true, recurses := true, named := ["internal/bytealg.MaxLen", "unicode/utf8.first", "unicode/utf8.acceptRanges"], apart := false, laid := [("unicode/utf8.acceptRanges", laid_unicode_utf8_acceptRanges), ("unicode/utf8.first", laid_unicode_utf8_first)], narrowed := true }
def QuotaSetsUptoSaid : Prop := quotaSetsUptoRow.holds Tryz.pinned (OpenSpec.upto quotaSetsSpec)

/-- 'downspoutlaw20.QuotaMoves', WHERE WHAT IT READS IS OF BULK AT MOST 1048576: true; the input reads as it did. -/
def quotaMovesUptoRow : OpenClaim := { program := "ytdkniplokbpolaagreatdoor", sum := "e9e955d53bae6ce768d42bb7a97c557ceb538578c9fff65b45d9c950275a4512", func := "downspout/downspoutlaw20.QuotaMoves", spec := "quotaMoves", inPlace := ["internal/bytealg.abigen_runtime_cmpstring", "internal/bytealg.IndexByteString", "internal/bytealg.IndexString", "slices.overlaps[downspout/api.Quota]"], unfollowed := true, recurses := true, named := ["internal/bytealg.MaxLen", "unicode/utf8.first", "unicode/utf8.acceptRanges"], apart := false, laid := [("unicode/utf8.acceptRanges", laid_unicode_utf8_acceptRanges), ("unicode/utf8.first", laid_unicode_utf8_first)], narrowed := true }
def QuotaMovesUptoSaid : Prop := quotaMovesUptoRow.holds Tryz.pinned (OpenSpec.upto quotaMovesSpec)

/-- 'downspoutlaw20.QuotaRefuses', WHERE WHAT IT READS IS OF BULK AT MOST 1048576: true; the input reads as it did. -/
def quotaRefusesUptoRow : OpenClaim := { program := "ytdkniplokbpolaagreatdoor", sum := "e9e955d53bae6ce768d42bb7a97c557ceb538578c9fff65b45d9c950275a4512", func := "downspout/downspoutlaw20.QuotaRefuses", spec := "quotaRefuses", inPlace := ["internal/bytealg.abigen_runtime_cmpstring", "internal/bytealg.IndexByteString", "internal/bytealg.IndexString", "slices.overlaps[downspout/api.Quota]"], unfollowed := true, recurses := true, named := ["internal/bytealg.MaxLen", "unicode/utf8.first", "unicode/utf8.acceptRanges"], apart := false, laid := [("unicode/utf8.acceptRanges", laid_unicode_utf8_acceptRanges), ("unicode/utf8.first", laid_unicode_utf8_first)], narrowed := true }
def QuotaRefusesUptoSaid : Prop := quotaRefusesUptoRow.holds Tryz.pinned (OpenSpec.upto quotaRefusesSpec)

end Rows
end Go.Proofs.YtdkniplokbpolaaGreatDoor
