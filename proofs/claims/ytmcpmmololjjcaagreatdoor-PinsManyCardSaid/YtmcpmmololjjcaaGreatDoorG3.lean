import Derived.Test.YtmcpmmololjjcaaGreatDoorP
import Derived.Test.YtmcpmmololjjcaaGreatDoorHZI
import Derived.Test.YtmcpmmololjjcaaGreatDoorCards
set_option maxRecDepth 100000
namespace Tb
open Go Hb Go.Proofs.YtmcpmmololjjcaaGreatDoor Go.Proofs
theorem glob_ok {W : World} {ps : List MemPlace} (h : DataW.LaidVars Tryz.prog W Rows.pinsManyRow.laid ps) : GlobOk prg W := by
  have q6 := glob_ints (P := prg) (g := 6) (n := 64) (i := 1) (t := 563) (e := 5) (k := .u8) (l := gl6) h rfl (by kernel_rfl) (by kernel_rfl) (by kernel_rfl) (by kernel_rfl) (by kernel_rfl) (by kernel_rfl) (by kernel_rfl) (by kernel_rfl) (by decide)
  intro g cs hg
  have hg : cond (Nat.beq g 6) (some gl6) none = some cs := hg
  by_cases h6 : g = 6
  · subst h6; cases hg; exact q6
  have e : ∀ m, g ≠ m → Nat.beq g m = false := fun m hm => by
    cases hb : Nat.beq g m with
    | false => rfl
    | true => exact absurd (Nat.eq_of_beq_eq_true hb) hm
  rw [e 6 h6] at hg
  cases hg
end Tb
