import Derived.Test.YtbckhfmmoeegaaaGreatDoorProg
import Derived.Test.YtbckhfmmoeegaaaGreatDoorX0
import Derived.Test.YtbckhfmmoeegaaaGreatDoorX1
import Derived.Test.YtbckhfmmoeegaaaGreatDoorX2
set_option autoImplicit false
set_option maxRecDepth 100000
set_option linter.unusedVariables false
namespace Tb
open Go Hb
def rngT : RT := (.n 10 13 t10 (.n 5 115 t5 (.n 2 26 t2 (.n 1 59 t1 (.n 0 59 t0 .e .e) .e) (.n 4 115 t4 (.n 3 26 t3 .e .e) .e)) (.n 8 22 t8 (.n 7 17 t7 (.n 6 17 t6 .e .e) .e) (.n 9 22 t9 .e .e))) (.n 15 13 t15 (.n 13 13 t13 (.n 12 13 t12 (.n 11 13 t11 .e .e) .e) (.n 14 13 t14 .e .e)) (.n 18 34 t18 (.n 17 10 t17 (.n 16 10 t16 .e .e) .e) (.n 19 34 t19 .e .e))))
noncomputable def prg : Prg := { Go.Proofs.Tryz.prog with glob := fun g => cond (Nat.beq g 7) (some gl7) (cond (Nat.beq g 0) (some gl0) (cond (Nat.beq g 1) (some gl1) (none))), rng := rngT.find }
theorem hm : prg.follows .mixedOrders = true := by kernel_rfl
end Tb
