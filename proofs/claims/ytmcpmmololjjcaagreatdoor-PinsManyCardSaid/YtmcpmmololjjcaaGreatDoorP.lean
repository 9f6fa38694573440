import Derived.Test.YtmcpmmololjjcaaGreatDoorProg
import Derived.Test.YtmcpmmololjjcaaGreatDoorX0
import Derived.Test.YtmcpmmololjjcaaGreatDoorX1
import Derived.Test.YtmcpmmololjjcaaGreatDoorX2
import Derived.Test.YtmcpmmololjjcaaGreatDoorX3
import Derived.Test.YtmcpmmololjjcaaGreatDoorX4
import Derived.Test.YtmcpmmololjjcaaGreatDoorX5
import Derived.Test.YtmcpmmololjjcaaGreatDoorX6
set_option autoImplicit false
set_option maxRecDepth 100000
set_option linter.unusedVariables false
namespace Tb
open Go Hb
def rngT : RT := (.n 22 115 t22 (.n 11 45 t11 (.n 5 59 t5 (.n 2 73 t2 (.n 1 62 t1 (.n 0 62 t0 .e .e) .e) (.n 4 59 t4 (.n 3 73 t3 .e .e) .e)) (.n 8 26 t8 (.n 7 16 t7 (.n 6 16 t6 .e .e) .e) (.n 10 45 t10 (.n 9 26 t9 .e .e) .e))) (.n 17 13 t17 (.n 14 53 t14 (.n 13 19 t13 (.n 12 19 t12 .e .e) .e) (.n 16 13 t16 (.n 15 53 t15 .e .e) .e)) (.n 20 22 t20 (.n 19 51 t19 (.n 18 51 t18 .e .e) .e) (.n 21 22 t21 .e .e)))) (.n 33 17 t33 (.n 28 23 t28 (.n 25 128 t25 (.n 24 128 t24 (.n 23 115 t23 .e .e) .e) (.n 27 13 t27 (.n 26 13 t26 .e .e) .e)) (.n 31 42 t31 (.n 30 42 t30 (.n 29 23 t29 .e .e) .e) (.n 32 17 t32 .e .e))) (.n 39 45 t39 (.n 36 45 t36 (.n 35 13 t35 (.n 34 13 t34 .e .e) .e) (.n 38 45 t38 (.n 37 45 t37 .e .e) .e)) (.n 42 19 t42 (.n 41 13 t41 (.n 40 13 t40 .e .e) .e) (.n 43 19 t43 .e .e)))))
noncomputable def prg : Prg := { Go.Proofs.Tryz.prog with glob := fun g => cond (Nat.beq g 6) (some gl6) (none), rng := rngT.find }
theorem hm : prg.follows .mixedOrders = true := by kernel_rfl
theorem dt {g n : Nat} {x : XC} {r : List XR} {A : List Nat} (l : List (Nat × XC)) (k : allOk prg n l) (h1 : funOk prg g x = some (x, r, n)) (h2 : tagsOf x = l) (hn : A.length ≤ n := by decide) (hA : A = List.range' 0 A.length := by rfl) : SOk prg g (dp n x r A) := dp_ok hm (fo l k h1 h2) hn hA
theorem ds {g n : Nat} {x : XC} {r : List XR} {A : List Nat} (h1 : funOk prg g x = some (x, r, n)) (h2 : tagsOf x = []) (hn : A.length ≤ n := by decide) (hA : A = List.range' 0 A.length := by rfl) : SOk prg g (dp n x r A) := dt [] trivial h1 h2 hn hA
theorem st {g : Nat} {b : Fun} (l : List (Nat × XC)) (n : Nat) (x : XC) (r : List XR) (A : List Nat) (k : allOk prg n l) (h1 : funOk prg g x = some (x, r, n)) (h2 : tagsOf x = l) (hb : b = dp n x r A) (hn : A.length ≤ n := by decide) (hA : A = List.range' 0 A.length := by rfl) : SOk prg g b := by rw [hb]; exact dt l k h1 h2 hn hA
theorem sw {g : Nat} {b : Fun} (n : Nat) (x : XC) (r : List XR) (A : List Nat) (h1 : funOk prg g x = some (x, r, n)) (h2 : tagsOf x = []) (hb : b = dp n x r A) (hn : A.length ≤ n := by decide) (hA : A = List.range' 0 A.length := by rfl) : SOk prg g b := st [] n x r A trivial h1 h2 hb hn hA
end Tb
