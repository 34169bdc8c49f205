/- TreeAdds: what its code reaches, second part. Conditions: none. -/
import Derived.Test.YtmmmpanpbphkdaaGreatDoorRows
import Derived.LaidMore
import Derived.Stop.Joined
import Derived.WalkKit
import Derived.ProofKit
import Derived.OpenShut
set_option maxRecDepth 100000
namespace Go.Proofs.YtmmmpanpbphkdaaGreatDoor.treeAdds
open Go.ChangeShapes Go.WideShapes Go.ChangeAt Go.RowKit
theorem aub : Tryz.prog.recurses 10 = Rows.treeAddsRow.recurses := by kernel_rfl
theorem aua : Tryz.prog.varsNamed 10 = Rows.treeAddsRow.named := by kernel_rfl
end Go.Proofs.YtmmmpanpbphkdaaGreatDoor.treeAdds
