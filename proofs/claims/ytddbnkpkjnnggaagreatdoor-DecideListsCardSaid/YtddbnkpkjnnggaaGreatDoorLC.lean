/- DecideLists: its closed facts. Conditions: none. -/
import Derived.Test.YtddbnkpkjnnggaaGreatDoorRows
import Derived.Test.YtddbnkpkjnnggaaGreatDoorLA
import Derived.Test.YtddbnkpkjnnggaaGreatDoorLB
import Derived.LaidMore
import Derived.Stop.Joined
import Derived.WalkKit
import Derived.ProofKit
import Derived.OpenShut
set_option maxRecDepth 100000
namespace Go.Proofs.YtddbnkpkjnnggaaGreatDoor.decideLists
open Go.ChangeShapes Go.WideShapes Go.ChangeAt Go.RowKit
theorem cName : Tryz.prog.funcNamed Rows.decideListsRow.func = some 7 := by kernel_rfl
theorem cClosed : joinedFacts Tryz.prog 7 Tryz.f7 Rows.decideListsSpec Rows.decideListsRow = true := by
  unfold joinedFacts
  rw [cIn, cUn, cRe, cNa]
  kernel_rfl
end Go.Proofs.YtddbnkpkjnnggaaGreatDoor.decideLists
