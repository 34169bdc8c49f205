/- CostAdds: what its code reaches, second part. Conditions: none. -/
import Derived.Test.YtmmmpanpbphkdaaGreatDoorRows
import Derived.LaidMore
import Derived.Stop.Joined
import Derived.WalkKit
import Derived.ProofKit
import Derived.OpenShut
set_option maxRecDepth 100000
namespace Go.Proofs.YtmmmpanpbphkdaaGreatDoor.costAdds
open Go.ChangeShapes Go.WideShapes Go.ChangeAt Go.RowKit
theorem cRe : Tryz.prog.recurses 3 = Rows.costAddsRow.recurses := by kernel_rfl
theorem cNa : Tryz.prog.varsNamed 3 = Rows.costAddsRow.named := by kernel_rfl
end Go.Proofs.YtmmmpanpbphkdaaGreatDoor.costAdds
