import Derived.Test.YtceefpkgodkpmaaGreatDoorP
import Derived.Test.YtceefpkgodkpmaaGreatDoorHZI
import Derived.Test.YtceefpkgodkpmaaGreatDoorCards
set_option maxRecDepth 100000
namespace Tb
open Go Hb Go.Proofs.YtceefpkgodkpmaaGreatDoor Go.Proofs
theorem glob_ok {W : World} {ps : List MemPlace} (h : DataW.LaidVars Tryz.prog W Rows.bookStatesRow.laid ps) : GlobOk prg W := by
  have q3 := glob_ints (P := prg) (g := 3) (n := 64) (i := 1) (t := 352) (e := 5) (k := .u8) (l := gl3) h rfl (by kernel_rfl) (by kernel_rfl) (by kernel_rfl) (by kernel_rfl) (by kernel_rfl) (by kernel_rfl) (by kernel_rfl) (by kernel_rfl) (by decide)
  intro g cs hg
  have hg : cond (Nat.beq g 3) (some gl3) none = some cs := hg
  by_cases h3 : g = 3
  · subst h3; cases hg; exact q3
  have e : ∀ m, g ≠ m → Nat.beq g m = false := fun m hm => by
    cases hb : Nat.beq g m with
    | false => rfl
    | true => exact absurd (Nat.eq_of_beq_eq_true hb) hm
  rw [e 3 h3] at hg
  cases hg
end Tb
