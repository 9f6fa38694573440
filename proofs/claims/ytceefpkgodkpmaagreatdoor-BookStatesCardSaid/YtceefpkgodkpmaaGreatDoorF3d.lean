/- Of the row of BookStates: whether it goes. -/
import Derived.Test.YtceefpkgodkpmaaGreatDoorCards
import Derived.ProofKit
import Derived.OpenShut
import Derived.LaidMore
import Derived.Lay
import Derived.SevenTiedAt
import Derived.Stop.Joined
namespace Go.Proofs.YtceefpkgodkpmaaGreatDoor.bookStates
open Go.ChangeShapes Go.WideShapes Go.ChangeAt Go.RowKit
set_option linter.unusedVariables false
set_option maxHeartbeats 0 in
theorem goes : false = OpenClaim.goesBy Rows.bookStatesRow Tryz.pinned.checked.prog := by kernel_rfl
end Go.Proofs.YtceefpkgodkpmaaGreatDoor.bookStates
