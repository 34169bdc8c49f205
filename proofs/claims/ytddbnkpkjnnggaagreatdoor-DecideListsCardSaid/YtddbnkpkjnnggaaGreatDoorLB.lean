/- DecideLists: what its code reaches, second part. Conditions: none. -/
import Derived.Test.YtddbnkpkjnnggaaGreatDoorRows
import Derived.LaidMore
import Derived.Stop.Joined
import Derived.WalkKit
import Derived.ProofKit
import Derived.OpenShut
set_option maxRecDepth 100000
namespace Go.Proofs.YtddbnkpkjnnggaaGreatDoor.decideLists
open Go.ChangeShapes Go.WideShapes Go.ChangeAt Go.RowKit
theorem cRe : Tryz.prog.recurses 7 = Rows.decideListsRow.recurses := by kernel_rfl
theorem cNa : Tryz.prog.varsNamed 7 = Rows.decideListsRow.named := by kernel_rfl
end Go.Proofs.YtddbnkpkjnnggaaGreatDoor.decideLists
