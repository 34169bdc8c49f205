/- CostAdds: its closed facts. Conditions: none. -/
import Derived.Test.YtmmmpanpbphkdaaGreatDoorRows
import Derived.Test.YtmmmpanpbphkdaaGreatDoorLA
import Derived.Test.YtmmmpanpbphkdaaGreatDoorLB
import Derived.LaidMore
import Derived.Stop.Joined
import Derived.WalkKit
import Derived.ProofKit
import Derived.OpenShut
set_option maxRecDepth 100000
namespace Go.Proofs.YtmmmpanpbphkdaaGreatDoor.costAdds
open Go.ChangeShapes Go.WideShapes Go.ChangeAt Go.RowKit
theorem aoT : Tryz.prog.funcNamed Rows.costAddsRow.func = some 3 := by kernel_rfl
theorem anJ : joinedFacts Tryz.prog 3 Tryz.f3 Rows.costAddsSpec Rows.costAddsRow = true := by
  unfold joinedFacts
  rw [cIn, cUn, cRe, cNa]
  kernel_rfl
end Go.Proofs.YtmmmpanpbphkdaaGreatDoor.costAdds
