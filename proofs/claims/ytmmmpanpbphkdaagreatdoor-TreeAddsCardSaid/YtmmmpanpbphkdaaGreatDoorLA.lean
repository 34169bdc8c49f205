/- TreeAdds: what its code reaches, first part. Conditions: none. -/
import Derived.Test.YtmmmpanpbphkdaaGreatDoorRows
import Derived.LaidMore
import Derived.Stop.Joined
import Derived.WalkKit
import Derived.ProofKit
import Derived.OpenShut
set_option maxRecDepth 100000
namespace Go.Proofs.YtmmmpanpbphkdaaGreatDoor.treeAdds
open Go.ChangeShapes Go.WideShapes Go.ChangeAt Go.RowKit
theorem at7 : Tryz.prog.inPlace 10 = Rows.treeAddsRow.inPlace := by kernel_rfl
theorem auc : Tryz.prog.unfollowed 10 = Rows.treeAddsRow.unfollowed := by kernel_rfl
end Go.Proofs.YtmmmpanpbphkdaaGreatDoor.treeAdds
