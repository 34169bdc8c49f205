/- TreeReads: its closed facts. Conditions: none. -/
import Derived.Test.YtmmmpanpbphkdaaGreatDoorRows
import Derived.Test.YtmmmpanpbphkdaaGreatDoorLA
import Derived.Test.YtmmmpanpbphkdaaGreatDoorLB
import Derived.LaidMore
import Derived.Stop.Joined
import Derived.WalkKit
import Derived.ProofKit
import Derived.OpenShut
set_option maxRecDepth 100000
namespace Go.Proofs.YtmmmpanpbphkdaaGreatDoor.treeReads
open Go.ChangeShapes Go.WideShapes Go.ChangeAt Go.RowKit
theorem ahS : Tryz.prog.funcNamed Rows.treeReadsRow.func = some 5 := by kernel_rfl
theorem agh : joinedFacts Tryz.prog 5 Tryz.f5 Rows.treeReadsSpec Rows.treeReadsRow = true := by
  unfold joinedFacts
  rw [aqH, aqK, aqJ, aqI]
  kernel_rfl
end Go.Proofs.YtmmmpanpbphkdaaGreatDoor.treeReads
