/- TreeKeeps: what its code reaches, second part. Conditions: none. -/
import Derived.Test.YtmmmpanpbphkdaaGreatDoorRows
import Derived.LaidMore
import Derived.Stop.Joined
import Derived.WalkKit
import Derived.ProofKit
import Derived.OpenShut
set_option maxRecDepth 100000
namespace Go.Proofs.YtmmmpanpbphkdaaGreatDoor.treeKeeps
open Go.ChangeShapes Go.WideShapes Go.ChangeAt Go.RowKit
theorem atA : Tryz.prog.recurses 11 = Rows.treeKeepsRow.recurses := by kernel_rfl
theorem atz : Tryz.prog.varsNamed 11 = Rows.treeKeepsRow.named := by kernel_rfl
end Go.Proofs.YtmmmpanpbphkdaaGreatDoor.treeKeeps
