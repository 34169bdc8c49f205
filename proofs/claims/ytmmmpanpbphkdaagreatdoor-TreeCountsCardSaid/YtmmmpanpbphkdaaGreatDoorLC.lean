/- TreeCounts: its closed facts. Conditions: none. -/
import Derived.Test.YtmmmpanpbphkdaaGreatDoorRows
import Derived.Test.YtmmmpanpbphkdaaGreatDoorLA
import Derived.Test.YtmmmpanpbphkdaaGreatDoorLB
import Derived.LaidMore
import Derived.Stop.Joined
import Derived.WalkKit
import Derived.ProofKit
import Derived.OpenShut
set_option maxRecDepth 100000
namespace Go.Proofs.YtmmmpanpbphkdaaGreatDoor.treeCounts
open Go.ChangeShapes Go.WideShapes Go.ChangeAt Go.RowKit
theorem a4C : Tryz.prog.funcNamed Rows.treeCountsRow.func = some 6 := by kernel_rfl
theorem a3F : joinedFacts Tryz.prog 6 Tryz.f6 Rows.treeCountsSpec Rows.treeCountsRow = true := by
  unfold joinedFacts
  rw [cIn, cUn, cRe, cNa]
  kernel_rfl
end Go.Proofs.YtmmmpanpbphkdaaGreatDoor.treeCounts
