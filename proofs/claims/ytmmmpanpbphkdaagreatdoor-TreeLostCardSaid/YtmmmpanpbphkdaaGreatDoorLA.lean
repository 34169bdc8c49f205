/- TreeLost: what its code reaches, first part. Conditions: none. -/
import Derived.Test.YtmmmpanpbphkdaaGreatDoorRows
import Derived.LaidMore
import Derived.Stop.Joined
import Derived.WalkKit
import Derived.ProofKit
import Derived.OpenShut
set_option maxRecDepth 100000
namespace Go.Proofs.YtmmmpanpbphkdaaGreatDoor.treeLost
open Go.ChangeShapes Go.WideShapes Go.ChangeAt Go.RowKit
theorem asF : Tryz.prog.inPlace 8 = Rows.treeLostRow.inPlace := by kernel_rfl
theorem asI : Tryz.prog.unfollowed 8 = Rows.treeLostRow.unfollowed := by kernel_rfl
end Go.Proofs.YtmmmpanpbphkdaaGreatDoor.treeLost
