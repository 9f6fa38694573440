/- The closed facts of the row of BreaksBare: each checked by the kernel. -/
import Derived.Test.YtkmpehlhplhnhaaGreatDoorCards
import Derived.ProofKit
import Derived.OpenShut
import Derived.LaidMore
import Derived.Lay
import Derived.SevenTiedAt
import Derived.Stop.Joined
namespace Go.Proofs.YtkmpehlhplhnhaaGreatDoor.breaksBare
open Go.ChangeShapes Go.WideShapes Go.ChangeAt Go.RowKit
set_option linter.unusedVariables false
set_option maxHeartbeats 0 in
theorem closed : joinedFacts Tryz.prog 3 Tryz.f3 Rows.breaksBareSpec Rows.breaksBareRow = true := by
  simp only [joinedFacts, Bool.and_eq_true]
  repeat' (refine And.intro ?_ ?_)
  all_goals as_aux_lemma => kernel_rfl
end Go.Proofs.YtkmpehlhplhnhaaGreatDoor.breaksBare
