import Derived.Test.YtfglajmanbjogaaGreatDoorM3
set_option autoImplicit false
set_option maxRecDepth 1000000
namespace Tb
open Go Hb
theorem e3_3 : ok3c 3 3 = true := by decide +kernel
theorem e6_1 : ok3c 6 1 = true := by decide +kernel
theorem e6_4 : ok3c 6 4 = true := by decide +kernel
theorem e11_3 : ok3c 11 3 = true := by decide +kernel
theorem e18_1 : ok3c 18 1 = true := by decide +kernel
theorem e20_3 : ok3c 20 3 = true := by decide +kernel
theorem e23_3 : ok3c 23 3 = true := by decide +kernel
theorem e26_4 : ok3c 26 4 = true := by decide +kernel
theorem e30_0 : ok3c 30 0 = true := by decide +kernel
theorem e30_4 : ok3c 30 4 = true := by decide +kernel
theorem e34_3 : ok3c 34 3 = true := by decide +kernel
end Tb
