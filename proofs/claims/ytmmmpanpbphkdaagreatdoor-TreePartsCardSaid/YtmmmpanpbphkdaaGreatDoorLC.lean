/- TreeParts: its closed facts. Conditions: none. -/
import Derived.Test.YtmmmpanpbphkdaaGreatDoorRows
import Derived.Test.YtmmmpanpbphkdaaGreatDoorLA
import Derived.Test.YtmmmpanpbphkdaaGreatDoorLB
import Derived.LaidMore
import Derived.Stop.Joined
import Derived.WalkKit
import Derived.ProofKit
import Derived.OpenShut
set_option maxRecDepth 100000
namespace Go.Proofs.YtmmmpanpbphkdaaGreatDoor.treeParts
open Go.ChangeShapes Go.WideShapes Go.ChangeAt Go.RowKit
theorem agh : Tryz.prog.funcNamed Rows.treePartsRow.func = some 7 := by kernel_rfl
theorem aoV : joinedFacts Tryz.prog 7 Tryz.f7 Rows.treePartsSpec Rows.treePartsRow = true := by
  unfold joinedFacts
  rw [aps, apv, apu, apt]
  kernel_rfl
end Go.Proofs.YtmmmpanpbphkdaaGreatDoor.treeParts
