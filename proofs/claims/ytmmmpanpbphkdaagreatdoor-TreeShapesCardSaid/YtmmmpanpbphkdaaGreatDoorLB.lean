/- TreeShapes: what its code reaches, second part. Conditions: none. -/
import Derived.Test.YtmmmpanpbphkdaaGreatDoorRows
import Derived.LaidMore
import Derived.Stop.Joined
import Derived.WalkKit
import Derived.ProofKit
import Derived.OpenShut
set_option maxRecDepth 100000
namespace Go.Proofs.YtmmmpanpbphkdaaGreatDoor.treeShapes
open Go.ChangeShapes Go.WideShapes Go.ChangeAt Go.RowKit
theorem cRe : Tryz.prog.recurses 9 = Rows.treeShapesRow.recurses := by kernel_rfl
theorem cNa : Tryz.prog.varsNamed 9 = Rows.treeShapesRow.named := by kernel_rfl
end Go.Proofs.YtmmmpanpbphkdaaGreatDoor.treeShapes
