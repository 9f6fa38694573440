import Derived.Test.YtfglajmanbjogaaGreatDoorM3
set_option autoImplicit false
set_option maxRecDepth 1000000
namespace Tb
open Go Hb
theorem e3_2 : ok3c 3 2 = true := by decide +kernel
theorem e6_3 : ok3c 6 3 = true := by decide +kernel
theorem e10_1 : ok3c 10 1 = true := by decide +kernel
theorem e11_2 : ok3c 11 2 = true := by decide +kernel
theorem e14_2 : ok3c 14 2 = true := by decide +kernel
theorem e20_4 : ok3c 20 4 = true := by decide +kernel
theorem e26_0 : ok3c 26 0 = true := by decide +kernel
theorem e28_3 : ok3c 28 3 = true := by decide +kernel
theorem e29_1 : ok3c 29 1 = true := by decide +kernel
theorem e32_4 : ok3c 32 4 = true := by decide +kernel
theorem e35_2 : ok3c 35 2 = true := by decide +kernel
end Tb
