/- TreeReads: what its code reaches, first part. Conditions: none. -/
import Derived.Test.YtmmmpanpbphkdaaGreatDoorRows
import Derived.LaidMore
import Derived.Stop.Joined
import Derived.WalkKit
import Derived.ProofKit
import Derived.OpenShut
set_option maxRecDepth 100000
namespace Go.Proofs.YtmmmpanpbphkdaaGreatDoor.treeReads
open Go.ChangeShapes Go.WideShapes Go.ChangeAt Go.RowKit
theorem aqH : Tryz.prog.inPlace 5 = Rows.treeReadsRow.inPlace := by kernel_rfl
theorem aqK : Tryz.prog.unfollowed 5 = Rows.treeReadsRow.unfollowed := by kernel_rfl
end Go.Proofs.YtmmmpanpbphkdaaGreatDoor.treeReads
