/- TreeKeeps: what its code reaches, first part. Conditions: none. -/
import Derived.Test.YtmmmpanpbphkdaaGreatDoorRows
import Derived.LaidMore
import Derived.Stop.Joined
import Derived.WalkKit
import Derived.ProofKit
import Derived.OpenShut
set_option maxRecDepth 100000
namespace Go.Proofs.YtmmmpanpbphkdaaGreatDoor.treeKeeps
open Go.ChangeShapes Go.WideShapes Go.ChangeAt Go.RowKit
theorem aty : Tryz.prog.inPlace 11 = Rows.treeKeepsRow.inPlace := by kernel_rfl
theorem atB : Tryz.prog.unfollowed 11 = Rows.treeKeepsRow.unfollowed := by kernel_rfl
end Go.Proofs.YtmmmpanpbphkdaaGreatDoor.treeKeeps
