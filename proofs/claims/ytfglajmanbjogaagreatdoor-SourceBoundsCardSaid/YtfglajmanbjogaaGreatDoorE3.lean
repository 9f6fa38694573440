import Derived.Test.YtfglajmanbjogaaGreatDoorM3
set_option autoImplicit false
set_option maxRecDepth 1000000
namespace Tb
open Go Hb
theorem e4_3 : ok3c 4 3 = true := by decide +kernel
theorem e5_3 : ok3c 5 3 = true := by decide +kernel
theorem e12_4 : ok3c 12 4 = true := by decide +kernel
theorem e14_4 : ok3c 14 4 = true := by decide +kernel
theorem e19_3 : ok3c 19 3 = true := by decide +kernel
theorem e21_4 : ok3c 21 4 = true := by decide +kernel
theorem e22_1 : ok3c 22 1 = true := by decide +kernel
theorem e26_1 : ok3c 26 1 = true := by decide +kernel
theorem e26_2 : ok3c 26 2 = true := by decide +kernel
theorem e30_2 : ok3c 30 2 = true := by decide +kernel
theorem e32_0 : ok3c 32 0 = true := by decide +kernel
end Tb
