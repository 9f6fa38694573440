import Derived.Test.YtfglajmanbjogaaGreatDoorProg
import Derived.Test.YtfglajmanbjogaaGreatDoorX0
import Derived.Test.YtfglajmanbjogaaGreatDoorX1
import Derived.Test.YtfglajmanbjogaaGreatDoorX2
set_option autoImplicit false
set_option maxRecDepth 100000
set_option linter.unusedVariables false
namespace Tb
open Go Hb
def rngT : RT := (.n 7 73 t7 (.n 3 26 t3 (.n 1 59 t1 (.n 0 59 t0 .e .e) (.n 2 26 t2 .e .e)) (.n 5 17 t5 (.n 4 17 t4 .e .e) (.n 6 73 t6 .e .e))) (.n 11 13 t11 (.n 9 13 t9 (.n 8 13 t8 .e .e) (.n 10 13 t10 .e .e)) (.n 13 10 t13 (.n 12 10 t12 .e .e) .e)))
noncomputable def prg : Prg := { Go.Proofs.Tryz.prog with glob := fun _ => none, rng := rngT.find }
theorem hm : prg.follows .mixedOrders = true := by kernel_rfl
end Tb
