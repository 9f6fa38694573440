import Derived.Test.YtbckhfmmoeegaaaGreatDoorL4
set_option autoImplicit false
set_option maxRecDepth 1000000
namespace Tb
open Go Hb
noncomputable def okc (a : Nat) (b : Nat) (c : Bool) : Bool := isBool true 1000000000 (b4 (run tab ttab 1000) [.i .u8 (.ofNat a), .i .u8 (.ofNat b), .b c] ⟨.e, 0, 0⟩)
def Upto (p : Nat → Prop) : Nat → Prop
  | 0 => True
  | n + 1 => Upto p n ∧ p n
theorem Upto.get {p : Nat → Prop} : ∀ {n : Nat}, Upto p n → ∀ a, a < n → p a
  | 0, _, a, h => by omega
  | n + 1, ⟨h1, h2⟩, a, h => by
    by_cases e : a = n
    · subst e; exact h2
    · exact h1.get a (by omega)
def Both (p : Bool → Prop) : Prop := p false ∧ p true
theorem Both.get {p : Bool → Prop} (h : Both p) : ∀ b, p b
  | false => h.1
  | true => h.2
end Tb
