import Derived.Test.YtfglajmanbjogaaGreatDoorM3
set_option autoImplicit false
set_option maxRecDepth 1000000
namespace Tb
open Go Hb
theorem e2_3 : ok3c 2 3 = true := by decide +kernel
theorem e5_0 : ok3c 5 0 = true := by decide +kernel
theorem e7_2 : ok3c 7 2 = true := by decide +kernel
theorem e11_0 : ok3c 11 0 = true := by decide +kernel
theorem e14_0 : ok3c 14 0 = true := by decide +kernel
theorem e15_4 : ok3c 15 4 = true := by decide +kernel
theorem e16_1 : ok3c 16 1 = true := by decide +kernel
theorem e19_4 : ok3c 19 4 = true := by decide +kernel
theorem e31_1 : ok3c 31 1 = true := by decide +kernel
theorem e31_3 : ok3c 31 3 = true := by decide +kernel
theorem e32_1 : ok3c 32 1 = true := by decide +kernel
end Tb
