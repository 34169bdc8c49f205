/- TreeLost: its closed facts. Conditions: none. -/
import Derived.Test.YtmmmpanpbphkdaaGreatDoorRows
import Derived.Test.YtmmmpanpbphkdaaGreatDoorLA
import Derived.Test.YtmmmpanpbphkdaaGreatDoorLB
import Derived.LaidMore
import Derived.Stop.Joined
import Derived.WalkKit
import Derived.ProofKit
import Derived.OpenShut
set_option maxRecDepth 100000
namespace Go.Proofs.YtmmmpanpbphkdaaGreatDoor.treeLost
open Go.ChangeShapes Go.WideShapes Go.ChangeAt Go.RowKit
theorem ajs : Tryz.prog.funcNamed Rows.treeLostRow.func = some 8 := by kernel_rfl
theorem aiY : joinedFacts Tryz.prog 8 Tryz.f8 Rows.treeLostSpec Rows.treeLostRow = true := by
  unfold joinedFacts
  rw [asF, asI, asH, asG]
  kernel_rfl
end Go.Proofs.YtmmmpanpbphkdaaGreatDoor.treeLost
