/- TreeKeeps: its closed facts. Conditions: none. -/
import Derived.Test.YtmmmpanpbphkdaaGreatDoorRows
import Derived.Test.YtmmmpanpbphkdaaGreatDoorLA
import Derived.Test.YtmmmpanpbphkdaaGreatDoorLB
import Derived.LaidMore
import Derived.Stop.Joined
import Derived.WalkKit
import Derived.ProofKit
import Derived.OpenShut
set_option maxRecDepth 100000
namespace Go.Proofs.YtmmmpanpbphkdaaGreatDoor.treeKeeps
open Go.ChangeShapes Go.WideShapes Go.ChangeAt Go.RowKit
theorem ali : Tryz.prog.funcNamed Rows.treeKeepsRow.func = some 11 := by kernel_rfl
theorem ajD : joinedFacts Tryz.prog 11 Tryz.f11 Rows.treeKeepsSpec Rows.treeKeepsRow = true := by
  unfold joinedFacts
  rw [aty, atB, atA, atz]
  kernel_rfl
end Go.Proofs.YtmmmpanpbphkdaaGreatDoor.treeKeeps
