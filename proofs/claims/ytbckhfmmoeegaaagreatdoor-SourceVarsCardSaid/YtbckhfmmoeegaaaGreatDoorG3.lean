import Derived.Test.YtbckhfmmoeegaaaGreatDoorP
import Derived.Test.YtbckhfmmoeegaaaGreatDoorHZI
import Derived.Test.YtbckhfmmoeegaaaGreatDoorCards
set_option maxRecDepth 100000
namespace Tb
open Go Hb Go.Proofs.YtbckhfmmoeegaaaGreatDoor Go.Proofs
theorem glob_ok {W : World} {ps : List MemPlace} (h : DataW.LaidVars Tryz.prog W Rows.sourceVarsRow.laid ps) : GlobOk prg W := by
  have q7 := glob_ints (P := prg) (g := 7) (n := 64) (i := 1) (t := 305) (e := 5) (k := .u8) (l := gl7) h rfl (by kernel_rfl) (by kernel_rfl) (by kernel_rfl) (by kernel_rfl) (by kernel_rfl) (by kernel_rfl) (by kernel_rfl) (by kernel_rfl) (by decide)
  intro g cs hg
  have hg : cond (Nat.beq g 7) (some gl7) none = some cs := hg
  by_cases h7 : g = 7
  · subst h7; cases hg; exact q7
  have e : ∀ m, g ≠ m → Nat.beq g m = false := fun m hm => by
    cases hb : Nat.beq g m with
    | false => rfl
    | true => exact absurd (Nat.eq_of_beq_eq_true hb) hm
  rw [e 7 h7] at hg
  cases hg
end Tb
