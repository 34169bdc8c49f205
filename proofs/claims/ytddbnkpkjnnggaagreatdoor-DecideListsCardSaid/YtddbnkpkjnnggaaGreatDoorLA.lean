/- DecideLists: what its code reaches, first part. Conditions: none. -/
import Derived.Test.YtddbnkpkjnnggaaGreatDoorRows
import Derived.LaidMore
import Derived.Stop.Joined
import Derived.WalkKit
import Derived.ProofKit
import Derived.OpenShut
set_option maxRecDepth 100000
namespace Go.Proofs.YtddbnkpkjnnggaaGreatDoor.decideLists
open Go.ChangeShapes Go.WideShapes Go.ChangeAt Go.RowKit
theorem cIn : Tryz.prog.inPlace 7 = Rows.decideListsRow.inPlace := by kernel_rfl
theorem cUn : Tryz.prog.unfollowed 7 = Rows.decideListsRow.unfollowed := by kernel_rfl
end Go.Proofs.YtddbnkpkjnnggaaGreatDoor.decideLists
