/-
  No cell of these rows narrows 'for every input' (looked for: loops, veiled, ifaces, maps, wideKeys, modest, calm, conditions, laid).
  DERIVED. THE GIVEN ROWS OF THIS SEAT. 3 by the template 'for every input the law returns true; each argument reads behind the call as it read before'; 0 by the template 'total and deterministic' (their statements: YtknndobfgfmjeaaTotals.lean).
  GIVEN WITH THE SEED: the statements are not yours to turn. If you find one false, say at which input.
  Laid BY PROGRAM, IN A SANDBOX (cutbox-rows.mjs): the forced cells as the released guide's own fill.sh prints them over the translation ab9cffb329a952f5… (all of the seat's roots in one cut). By AI agents, Wed Nov 11 2026. No macro, syntax, notation, axiom, sorry.
-/
import Derived.Test.YtknndobfgfmjeaaChecked
import GoSem.Claim
import GoSem.ClaimJoined
import GoSem.ClaimMapViews
import Derived.JoinedTies
import Derived.KernelRfl
namespace Go.Proofs.Ytknndobfgfmjeaa
/- THE CELL 'sum', in the pinned program and in every row, IS THE sha256 OF THE DUMP (.gsa) THAT YtknndobfgfmjeaaProg.lean LOADS. Nothing in Lean hashes anything: it is a label: what it is worth is what the hold of that sum in a sandbox is worth. -/
noncomputable def Try.pinned : Pinned := { name := "ytknndobfgfmjeaa", sum := "ab9cffb329a952f52360c79d1e1adcba4fc235ff72ce41a5f81b29a605e214fb", checked := Try.checked }
namespace Rows
def none {H : Type} : Left H := { results := [], args := [] }

/-- 'downspoutlaw13.SplitPieces': WHATEVER THE INPUT: true; the input reads as it did. -/
def splitPiecesSpec : ChangeSpec := { name := "splitPieces", fn := fun _ => fun
  | [d1, d2] => { results := [.lit (.bool true)], args := [d1, d2] }
  | _ => none }
def splitPiecesRow : OpenClaim := { program := "ytknndobfgfmjeaa", sum := "ab9cffb329a952f52360c79d1e1adcba4fc235ff72ce41a5f81b29a605e214fb", func := "downspout/downspoutlaw13.SplitPieces", spec := "splitPieces", apart := false }
def SplitPiecesSaid : Prop := splitPiecesRow.holds Try.pinned (OpenSpec.ofChange splitPiecesSpec)

/-- ITS FALSE NEIGHBOUR: 'it returns false'. Refute it at one input. -/
def splitPiecesWrong : ChangeSpec := { name := "splitPieces", fn := fun _ => fun
  | [d1, d2] => { results := [.lit (.bool false)], args := [d1, d2] }
  | _ => none }
def SplitPiecesWrongFalsely : Prop := splitPiecesRow.holds Try.pinned (OpenSpec.ofChange splitPiecesWrong)

/-- 'downspoutlaw13.SplitLeaves': WHATEVER THE INPUT: true; the input reads as it did. -/
def splitLeavesSpec : ChangeSpec := { name := "splitLeaves", fn := fun _ => fun
  | [d1, d2] => { results := [.lit (.bool true)], args := [d1, d2] }
  | _ => none }
def splitLeavesRow : OpenClaim := { program := "ytknndobfgfmjeaa", sum := "ab9cffb329a952f52360c79d1e1adcba4fc235ff72ce41a5f81b29a605e214fb", func := "downspout/downspoutlaw13.SplitLeaves", spec := "splitLeaves", apart := false }
def SplitLeavesSaid : Prop := splitLeavesRow.holds Try.pinned (OpenSpec.ofChange splitLeavesSpec)

/-- ITS FALSE NEIGHBOUR: 'it returns false'. Refute it at one input. -/
def splitLeavesWrong : ChangeSpec := { name := "splitLeaves", fn := fun _ => fun
  | [d1, d2] => { results := [.lit (.bool false)], args := [d1, d2] }
  | _ => none }
def SplitLeavesWrongFalsely : Prop := splitLeavesRow.holds Try.pinned (OpenSpec.ofChange splitLeavesWrong)

/-- 'downspoutlaw13.SplitKids': WHATEVER THE INPUT: true; the input reads as it did. -/
def splitKidsSpec : ChangeSpec := { name := "splitKids", fn := fun _ => fun
  | [d1, d2] => { results := [.lit (.bool true)], args := [d1, d2] }
  | _ => none }
def splitKidsRow : OpenClaim := { program := "ytknndobfgfmjeaa", sum := "ab9cffb329a952f52360c79d1e1adcba4fc235ff72ce41a5f81b29a605e214fb", func := "downspout/downspoutlaw13.SplitKids", spec := "splitKids", apart := false }
def SplitKidsSaid : Prop := splitKidsRow.holds Try.pinned (OpenSpec.ofChange splitKidsSpec)

/-- ITS FALSE NEIGHBOUR: 'it returns false'. Refute it at one input. -/
def splitKidsWrong : ChangeSpec := { name := "splitKids", fn := fun _ => fun
  | [d1, d2] => { results := [.lit (.bool false)], args := [d1, d2] }
  | _ => none }
def SplitKidsWrongFalsely : Prop := splitKidsRow.holds Try.pinned (OpenSpec.ofChange splitKidsWrong)

/- THE SECOND FORM. 'bulk': how many values and letters a reading holds, each counted each time it is reached (what is shared counts as often as it is met; a slice's spare places count too). A statement '..UptoSaid' is the law's where the arguments, and the package variables that the reading takes, are together of bulk at most 1048576: NARROWER than '..Said'. Prove '..Said' where nothing that the law and all that it calls make is longer than what came in: it says more and counts as full. Else prove '..UptoSaid'. A law counts once. -/
mutual
def uptoBulk {H : Type} : DataW H → Nat
  | .lit (.string bytes) => bytes.length + 1
  | .lit _ => 1
  | .nil => 1
  | .ptr d => uptoBulk d + 1
  | .slice elems spare => uptoBulkAll elems + uptoBulkAll spare + 1
  | .agg parts => uptoBulkAll parts + 1
  | .iface _ d => uptoBulk d + 1
  | .map entries => uptoBulkEntries entries + 1
  | .held _ => 1
def uptoBulkAll {H : Type} : List (DataW H) → Nat
  | [] => 0
  | d :: r => uptoBulk d + uptoBulkAll r
def uptoBulkEntries {H : Type} : List (Lit × DataW H) → Nat
  | [] => 0
  | x :: r => uptoBulkEntry x + uptoBulkEntries r
def uptoBulkEntry {H : Type} : Lit × DataW H → Nat
  | (.string bytes, d) => bytes.length + uptoBulk d + 1
  | (_, d) => uptoBulk d + 1
 end
def uptoSmall : (H : Type) → List (DataW H) → Bool := fun _ ds => decide (uptoBulkAll ds ≤ 1048576)
def OpenSpec.upto (s : _root_.Go.ChangeSpec) : _root_.Go.OpenSpec := { _root_.Go.OpenSpec.ofChange s with cond := some uptoSmall }

/-- 'downspoutlaw13.SplitPieces', WHERE WHAT IT READS IS OF BULK AT MOST 1048576: true; the input reads as it did. -/
def splitPiecesUptoRow : OpenClaim := { program := "ytknndobfgfmjeaa", sum := "ab9cffb329a952f52360c79d1e1adcba4fc235ff72ce41a5f81b29a605e214fb", func := "downspout/downspoutlaw13.SplitPieces", spec := "splitPieces", apart := false, narrowed := true }
def SplitPiecesUptoSaid : Prop := splitPiecesUptoRow.holds Try.pinned (OpenSpec.upto splitPiecesSpec)

/-- 'downspoutlaw13.SplitLeaves', WHERE WHAT IT READS IS OF BULK AT MOST 1048576: true; the input reads as it did. -/
def splitLeavesUptoRow : OpenClaim := { program := "ytknndobfgfmjeaa", sum := "ab9cffb329a952f52360c79d1e1adcba4fc235ff72ce41a5f81b29a605e214fb", func := "downspout/downspoutlaw13.SplitLeaves", spec := "splitLeaves", apart := false, narrowed := true }
def SplitLeavesUptoSaid : Prop := splitLeavesUptoRow.holds Try.pinned (OpenSpec.upto splitLeavesSpec)

/-- 'downspoutlaw13.SplitKids', WHERE WHAT IT READS IS OF BULK AT MOST 1048576: true; the input reads as it did. -/
def splitKidsUptoRow : OpenClaim := { program := "ytknndobfgfmjeaa", sum := "ab9cffb329a952f52360c79d1e1adcba4fc235ff72ce41a5f81b29a605e214fb", func := "downspout/downspoutlaw13.SplitKids", spec := "splitKids", apart := false, narrowed := true }
def SplitKidsUptoSaid : Prop := splitKidsUptoRow.holds Try.pinned (OpenSpec.upto splitKidsSpec)

end Rows
end Go.Proofs.Ytknndobfgfmjeaa
