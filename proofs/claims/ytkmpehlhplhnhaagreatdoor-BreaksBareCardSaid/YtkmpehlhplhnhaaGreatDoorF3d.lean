/- Of the row of BreaksBare: whether it goes. -/
import Derived.Test.YtkmpehlhplhnhaaGreatDoorCards
import Derived.ProofKit
import Derived.OpenShut
import Derived.LaidMore
import Derived.Lay
import Derived.SevenTiedAt
import Derived.Stop.Joined
namespace Go.Proofs.YtkmpehlhplhnhaaGreatDoor.breaksBare
open Go.ChangeShapes Go.WideShapes Go.ChangeAt Go.RowKit
set_option linter.unusedVariables false
theorem goes_of {P : Program} (h0 : P.funcs.toList.any Func.goes = false) (s : Start) (f : String) : P.goesAt s f = false := by
  have h : P.funcs.any Func.goes = false := by rw [← Array.any_toList]; exact h0
  have hf : ∀ g, P.goes g = false := by
    intro g
    have h1 : ∀ k : Nat, (P.funcs[k]?).any Func.goes = false := by
      intro k
      cases hk : P.funcs[k]? with
      | none => rfl
      | some fn =>
        have hm := Array.mem_of_getElem? hk
        have := Array.any_eq_false'.1 h fn hm
        simpa using this
    unfold Program.goes
    simp only [h1, h, Bool.and_false, Bool.or_false]
    simp
  unfold Program.goesAt Program.goesFrom
  have h2 : (P.funcNamed f).any P.goes = false := by cases P.funcNamed f <;> simp [hf]
  rw [h2, Bool.false_or]
  cases s <;> simp [hf]
set_option maxHeartbeats 0 in
theorem nogo : Tryz.pinned.checked.prog.funcs.toList.any Func.goes = false := by kernel_rfl
theorem goes : false = OpenClaim.goesBy Rows.breaksBareRow Tryz.pinned.checked.prog := (goes_of nogo _ _).symm
end Go.Proofs.YtkmpehlhplhnhaaGreatDoor.breaksBare
