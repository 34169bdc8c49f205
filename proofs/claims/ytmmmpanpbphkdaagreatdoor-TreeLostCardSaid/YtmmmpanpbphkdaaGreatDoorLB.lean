/- TreeLost: what its code reaches, second part. Conditions: none. -/
import Derived.Test.YtmmmpanpbphkdaaGreatDoorRows
import Derived.LaidMore
import Derived.Stop.Joined
import Derived.WalkKit
import Derived.ProofKit
import Derived.OpenShut
set_option maxRecDepth 100000
namespace Go.Proofs.YtmmmpanpbphkdaaGreatDoor.treeLost
open Go.ChangeShapes Go.WideShapes Go.ChangeAt Go.RowKit
theorem asH : Tryz.prog.recurses 8 = Rows.treeLostRow.recurses := by kernel_rfl
theorem asG : Tryz.prog.varsNamed 8 = Rows.treeLostRow.named := by kernel_rfl
end Go.Proofs.YtmmmpanpbphkdaaGreatDoor.treeLost
