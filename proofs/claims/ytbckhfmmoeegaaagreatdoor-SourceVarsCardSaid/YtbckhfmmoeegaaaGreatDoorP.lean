import Derived.Test.YtbckhfmmoeegaaaGreatDoorProg
import Derived.Test.YtbckhfmmoeegaaaGreatDoorX0
import Derived.Test.YtbckhfmmoeegaaaGreatDoorX1
import Derived.Test.YtbckhfmmoeegaaaGreatDoorX2
import Derived.Test.YtbckhfmmoeegaaaGreatDoorX3
set_option autoImplicit false
set_option maxRecDepth 100000
set_option linter.unusedVariables false
namespace Tb
open Go Hb
def rngT : RT := (.n 8 73 t8 (.n 4 17 t4 (.n 2 26 t2 (.n 1 59 t1 (.n 0 59 t0 .e .e) .e) (.n 3 26 t3 .e .e)) (.n 6 13 t6 (.n 5 17 t5 .e .e) (.n 7 13 t7 .e .e))) (.n 12 10 t12 (.n 10 13 t10 (.n 9 73 t9 .e .e) (.n 11 13 t11 .e .e)) (.n 14 19 t14 (.n 13 10 t13 .e .e) (.n 15 19 t15 .e .e))))
noncomputable def prg : Prg := { Go.Proofs.Tryz.prog with glob := fun g => cond (Nat.beq g 7) (some gl7) (none), rng := rngT.find }
theorem hm : prg.follows .mixedOrders = true := by kernel_rfl
end Tb
