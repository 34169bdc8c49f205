/- CostAdds: what its code reaches, first part. Conditions: none. -/
import Derived.Test.YtmmmpanpbphkdaaGreatDoorRows
import Derived.LaidMore
import Derived.Stop.Joined
import Derived.WalkKit
import Derived.ProofKit
import Derived.OpenShut
set_option maxRecDepth 100000
namespace Go.Proofs.YtmmmpanpbphkdaaGreatDoor.costAdds
open Go.ChangeShapes Go.WideShapes Go.ChangeAt Go.RowKit
theorem cIn : Tryz.prog.inPlace 3 = Rows.costAddsRow.inPlace := by kernel_rfl
theorem cUn : Tryz.prog.unfollowed 3 = Rows.costAddsRow.unfollowed := by kernel_rfl
end Go.Proofs.YtmmmpanpbphkdaaGreatDoor.costAdds
