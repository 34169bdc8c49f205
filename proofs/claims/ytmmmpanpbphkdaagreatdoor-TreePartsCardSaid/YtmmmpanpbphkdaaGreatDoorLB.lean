/- TreeParts: what its code reaches, second part. Conditions: none. -/
import Derived.Test.YtmmmpanpbphkdaaGreatDoorRows
import Derived.LaidMore
import Derived.Stop.Joined
import Derived.WalkKit
import Derived.ProofKit
import Derived.OpenShut
set_option maxRecDepth 100000
namespace Go.Proofs.YtmmmpanpbphkdaaGreatDoor.treeParts
open Go.ChangeShapes Go.WideShapes Go.ChangeAt Go.RowKit
theorem apu : Tryz.prog.recurses 7 = Rows.treePartsRow.recurses := by kernel_rfl
theorem apt : Tryz.prog.varsNamed 7 = Rows.treePartsRow.named := by kernel_rfl
end Go.Proofs.YtmmmpanpbphkdaaGreatDoor.treeParts
