/- TreeReads: what its code reaches, second part. Conditions: none. -/
import Derived.Test.YtmmmpanpbphkdaaGreatDoorRows
import Derived.LaidMore
import Derived.Stop.Joined
import Derived.WalkKit
import Derived.ProofKit
import Derived.OpenShut
set_option maxRecDepth 100000
namespace Go.Proofs.YtmmmpanpbphkdaaGreatDoor.treeReads
open Go.ChangeShapes Go.WideShapes Go.ChangeAt Go.RowKit
theorem aqJ : Tryz.prog.recurses 5 = Rows.treeReadsRow.recurses := by kernel_rfl
theorem aqI : Tryz.prog.varsNamed 5 = Rows.treeReadsRow.named := by kernel_rfl
end Go.Proofs.YtmmmpanpbphkdaaGreatDoor.treeReads
