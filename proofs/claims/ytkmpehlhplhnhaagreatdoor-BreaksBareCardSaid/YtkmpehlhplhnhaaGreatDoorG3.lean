import Derived.Test.YtkmpehlhplhnhaaGreatDoorP
import Derived.Test.YtkmpehlhplhnhaaGreatDoorHZI
import Derived.Test.YtkmpehlhplhnhaaGreatDoorCards
set_option maxRecDepth 100000
namespace Tb
open Go Hb Go.Proofs.YtkmpehlhplhnhaaGreatDoor Go.Proofs
theorem glob_ok3 {W : World} {ps : List MemPlace} (h : DataW.LaidVars Tryz.prog W Rows.breaksBareRow.laid ps) : GlobOk prg W := by
  have q0 := glob_ints (P := prg) (g := 0) (n := 256) (i := 7) (t := 201) (e := 5) (k := .u8) (l := gl0) h rfl (by kernel_rfl) (by kernel_rfl) (by kernel_rfl) (by kernel_rfl) (by kernel_rfl) (by kernel_rfl) (by kernel_rfl) (by kernel_rfl) (by decide)
  have q1 := glob_pairs' (P := prg) (g := 1) (n := 16) (i := 3) (t := 204) (e := 203) (k := .u8) (l := gl1) h rfl (by kernel_rfl) (by kernel_rfl) (by kernel_rfl) (by kernel_rfl) (by kernel_rfl) (by kernel_rfl) (by kernel_rfl) (by decide)
  have q8 := glob_ints (P := prg) (g := 8) (n := 64) (i := 1) (t := 337) (e := 5) (k := .u8) (l := gl8) h rfl (by kernel_rfl) (by kernel_rfl) (by kernel_rfl) (by kernel_rfl) (by kernel_rfl) (by kernel_rfl) (by kernel_rfl) (by kernel_rfl) (by decide)
  intro g cs hg
  have hg : cond (Nat.beq g 0) (some gl0) (cond (Nat.beq g 1) (some gl1) (cond (Nat.beq g 8) (some gl8) (none))) = some cs := hg
  by_cases h0 : g = 0
  · subst h0; cases hg; exact q0
  by_cases h1 : g = 1
  · subst h1; cases hg; exact q1
  by_cases h8 : g = 8
  · subst h8; cases hg; exact q8
  have e : ∀ m, g ≠ m → Nat.beq g m = false := fun m hm => by
    cases hb : Nat.beq g m with
    | false => rfl
    | true => exact absurd (Nat.eq_of_beq_eq_true hb) hm
  rw [e 0 h0] at hg
  rw [e 1 h1] at hg
  rw [e 8 h8] at hg
  cases hg
end Tb
