import Derived.Test.YtceefpkgodkpmaaGreatDoorProg
import Derived.Test.YtceefpkgodkpmaaGreatDoorX0
import Derived.Test.YtceefpkgodkpmaaGreatDoorX1
import Derived.Test.YtceefpkgodkpmaaGreatDoorX2
import Derived.Test.YtceefpkgodkpmaaGreatDoorX3
import Derived.Test.YtceefpkgodkpmaaGreatDoorX4
set_option autoImplicit false
set_option maxRecDepth 100000
set_option linter.unusedVariables false
namespace Tb
open Go Hb
def rngT : RT := (.n 13 45 t13 (.n 6 26 t6 (.n 3 59 t3 (.n 1 128 t1 (.n 0 128 t0 .e .e) (.n 2 59 t2 .e .e)) (.n 5 115 t5 (.n 4 115 t4 .e .e) .e)) (.n 10 13 t10 (.n 8 17 t8 (.n 7 26 t7 .e .e) (.n 9 17 t9 .e .e)) (.n 12 45 t12 (.n 11 13 t11 .e .e) .e))) (.n 20 19 t20 (.n 17 20 t17 (.n 15 45 t15 (.n 14 45 t14 .e .e) (.n 16 20 t16 .e .e)) (.n 19 13 t19 (.n 18 13 t18 .e .e) .e)) (.n 23 13 t23 (.n 22 13 t22 (.n 21 19 t21 .e .e) .e) (.n 25 13 t25 (.n 24 13 t24 .e .e) .e))))
noncomputable def prg : Prg := { Go.Proofs.Tryz.prog with glob := fun g => cond (Nat.beq g 3) (some gl3) (none), rng := rngT.find }
theorem hm : prg.follows .mixedOrders = true := by kernel_rfl
end Tb
