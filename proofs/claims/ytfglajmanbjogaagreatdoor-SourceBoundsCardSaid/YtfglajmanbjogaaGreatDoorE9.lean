import Derived.Test.YtfglajmanbjogaaGreatDoorM3
set_option autoImplicit false
set_option maxRecDepth 1000000
namespace Tb
open Go Hb
theorem e0_0 : ok3c 0 0 = true := by decide +kernel
theorem e0_1 : ok3c 0 1 = true := by decide +kernel
theorem e0_2 : ok3c 0 2 = true := by decide +kernel
theorem e0_3 : ok3c 0 3 = true := by decide +kernel
theorem e0_4 : ok3c 0 4 = true := by decide +kernel
theorem e4_0 : ok3c 4 0 = true := by decide +kernel
theorem e9_4 : ok3c 9 4 = true := by decide +kernel
theorem e16_4 : ok3c 16 4 = true := by decide +kernel
theorem e18_4 : ok3c 18 4 = true := by decide +kernel
theorem e19_1 : ok3c 19 1 = true := by decide +kernel
theorem e21_1 : ok3c 21 1 = true := by decide +kernel
theorem e24_3 : ok3c 24 3 = true := by decide +kernel
theorem e28_4 : ok3c 28 4 = true := by decide +kernel
theorem e35_1 : ok3c 35 1 = true := by decide +kernel
theorem e35_3 : ok3c 35 3 = true := by decide +kernel
end Tb
