/- TreeParts: what its code reaches, first part. Conditions: none. -/
import Derived.Test.YtmmmpanpbphkdaaGreatDoorRows
import Derived.LaidMore
import Derived.Stop.Joined
import Derived.WalkKit
import Derived.ProofKit
import Derived.OpenShut
set_option maxRecDepth 100000
namespace Go.Proofs.YtmmmpanpbphkdaaGreatDoor.treeParts
open Go.ChangeShapes Go.WideShapes Go.ChangeAt Go.RowKit
theorem aps : Tryz.prog.inPlace 7 = Rows.treePartsRow.inPlace := by kernel_rfl
theorem apv : Tryz.prog.unfollowed 7 = Rows.treePartsRow.unfollowed := by kernel_rfl
end Go.Proofs.YtmmmpanpbphkdaaGreatDoor.treeParts
