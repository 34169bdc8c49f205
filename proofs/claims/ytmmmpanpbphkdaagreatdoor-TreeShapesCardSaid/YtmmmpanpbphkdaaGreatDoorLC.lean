/- TreeShapes: its closed facts. Conditions: none. -/
import Derived.Test.YtmmmpanpbphkdaaGreatDoorRows
import Derived.Test.YtmmmpanpbphkdaaGreatDoorLA
import Derived.Test.YtmmmpanpbphkdaaGreatDoorLB
import Derived.LaidMore
import Derived.Stop.Joined
import Derived.WalkKit
import Derived.ProofKit
import Derived.OpenShut
set_option maxRecDepth 100000
namespace Go.Proofs.YtmmmpanpbphkdaaGreatDoor.treeShapes
open Go.ChangeShapes Go.WideShapes Go.ChangeAt Go.RowKit
theorem awj : Tryz.prog.funcNamed Rows.treeShapesRow.func = some 9 := by kernel_rfl
theorem avp : joinedFacts Tryz.prog 9 Tryz.f9 Rows.treeShapesSpec Rows.treeShapesRow = true := by
  unfold joinedFacts
  rw [cIn, cUn, cRe, cNa]
  kernel_rfl
end Go.Proofs.YtmmmpanpbphkdaaGreatDoor.treeShapes
