/- From a call that the evaluator knows to the statement of a row. -/
import Derived.Test.YtfglajmanbjogaaGreatDoorH6
import Derived.ChangeFn
set_option autoImplicit false
set_option linter.unusedVariables false
namespace Hb
open Go

/-! ## From a call to the statement's call -/

theorem kept_of_heap {w w' : World} (ho : w'.os = w.os) (hp : w'.output = w.output) (h : ∀ i, i < w.heap.size → w'.heap[i]? = w.heap[i]?) (may : MemPlace → Prop) : w.keptBut w' may := by
  refine ⟨ho, hp, fun i hi => ?_⟩
  rw [h i hi]
  exact (World.keptBut_refl w may).2.2 i hi

theorem ACall.calls {P : Prg} (hg : P.glob = fun _ => none) {g : FuncId} {args : List AV} {vs : List Value} {x : Bool} (h : ACall P g args ([], 0) fun v' _ => v' = .b x) (hv : ∀ c, RepL c args vs) (W : World) :
    Calls P.toProgram g vs.toArray W fun e w' => e = .returned (.bool x) ∧ ∀ may, W.keptBut w' may := by
  let c : Cx := ⟨W, [], fun _ => 0, 0, W.heap.size⟩
  have hs : Sim P c := ⟨fun r b hb => (by simp [c] at hb), fun r r' b b' hb => (by simp [c] at hb), fun r b hb => (by simp [c] at hb), Nat.le_refl _, fun g cs hc => (by rw [hg] at hc; cases hc)⟩
  refine (callsIn_wide.1 (h.2 c vs rfl hs (hv c))).mono fun e w' ⟨c', v, av, e1, e2, e3, e4, e5, e6⟩ => ?_
  subst e6
  subst e2
  have : v = .bool x := e5
  subst this
  refine ⟨e1, fun may => kept_of_heap e4.os e4.output (fun i hi => e4.keep i hi ?_) may⟩
  rintro ⟨r, blk, hb, _⟩
  simp [c] at hb

end Hb
