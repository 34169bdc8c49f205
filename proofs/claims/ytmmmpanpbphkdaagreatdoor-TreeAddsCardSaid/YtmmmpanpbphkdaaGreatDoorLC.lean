/- TreeAdds: its closed facts. Conditions: none. -/
import Derived.Test.YtmmmpanpbphkdaaGreatDoorRows
import Derived.Test.YtmmmpanpbphkdaaGreatDoorLA
import Derived.Test.YtmmmpanpbphkdaaGreatDoorLB
import Derived.LaidMore
import Derived.Stop.Joined
import Derived.WalkKit
import Derived.ProofKit
import Derived.OpenShut
set_option maxRecDepth 100000
namespace Go.Proofs.YtmmmpanpbphkdaaGreatDoor.treeAdds
open Go.ChangeShapes Go.WideShapes Go.ChangeAt Go.RowKit
theorem als : Tryz.prog.funcNamed Rows.treeAddsRow.func = some 10 := by kernel_rfl
theorem ak6 : joinedFacts Tryz.prog 10 Tryz.f10 Rows.treeAddsSpec Rows.treeAddsRow = true := by
  unfold joinedFacts
  rw [at7, auc, aub, aua]
  kernel_rfl
end Go.Proofs.YtmmmpanpbphkdaaGreatDoor.treeAdds
