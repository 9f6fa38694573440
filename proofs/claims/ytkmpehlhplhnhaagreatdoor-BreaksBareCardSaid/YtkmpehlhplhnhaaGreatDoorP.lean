import Derived.Test.YtkmpehlhplhnhaaGreatDoorProg
import Derived.Test.YtkmpehlhplhnhaaGreatDoorX0
import Derived.Test.YtkmpehlhplhnhaaGreatDoorX1
import Derived.Test.YtkmpehlhplhnhaaGreatDoorX2
import Derived.Test.YtkmpehlhplhnhaaGreatDoorX3
set_option autoImplicit false
set_option maxRecDepth 100000
set_option linter.unusedVariables false
namespace Tb
open Go Hb
def rngT : RT := (.n 11 17 t11 (.n 5 22 t5 (.n 2 115 t2 (.n 1 59 t1 (.n 0 59 t0 .e .e) .e) (.n 4 22 t4 (.n 3 115 t3 .e .e) .e)) (.n 8 13 t8 (.n 7 26 t7 (.n 6 26 t6 .e .e) .e) (.n 10 17 t10 (.n 9 13 t9 .e .e) .e))) (.n 17 34 t17 (.n 14 13 t14 (.n 13 13 t13 (.n 12 13 t12 .e .e) .e) (.n 16 34 t16 (.n 15 13 t15 .e .e) .e)) (.n 20 10 t20 (.n 19 16 t19 (.n 18 16 t18 .e .e) .e) (.n 21 10 t21 .e .e))))
noncomputable def prg : Prg := { Go.Proofs.Tryz.prog with glob := fun g => cond (Nat.beq g 0) (some gl0) (cond (Nat.beq g 1) (some gl1) (cond (Nat.beq g 8) (some gl8) (none))), rng := rngT.find }
theorem hm : prg.follows .mixedOrders = true := by kernel_rfl
theorem dt {g n : Nat} {x : XC} {r : List XR} {A : List Nat} (l : List (Nat × XC)) (k : allOk prg n l) (h1 : funOk prg g x = some (x, r, n)) (h2 : tagsOf x = l) (hn : A.length ≤ n := by decide) (hA : A = List.range' 0 A.length := by rfl) : SOk prg g (dp n x r A) := dp_ok hm (fo l k h1 h2) hn hA
theorem ds {g n : Nat} {x : XC} {r : List XR} {A : List Nat} (h1 : funOk prg g x = some (x, r, n)) (h2 : tagsOf x = []) (hn : A.length ≤ n := by decide) (hA : A = List.range' 0 A.length := by rfl) : SOk prg g (dp n x r A) := dt [] trivial h1 h2 hn hA
theorem st {g : Nat} {b : Fun} (l : List (Nat × XC)) (n : Nat) (x : XC) (r : List XR) (A : List Nat) (k : allOk prg n l) (h1 : funOk prg g x = some (x, r, n)) (h2 : tagsOf x = l) (hb : b = dp n x r A) (hn : A.length ≤ n := by decide) (hA : A = List.range' 0 A.length := by rfl) : SOk prg g b := by rw [hb]; exact dt l k h1 h2 hn hA
theorem sw {g : Nat} {b : Fun} (n : Nat) (x : XC) (r : List XR) (A : List Nat) (h1 : funOk prg g x = some (x, r, n)) (h2 : tagsOf x = []) (hb : b = dp n x r A) (hn : A.length ≤ n := by decide) (hA : A = List.range' 0 A.length := by rfl) : SOk prg g b := st [] n x r A trivial h1 h2 hb hn hA
end Tb
