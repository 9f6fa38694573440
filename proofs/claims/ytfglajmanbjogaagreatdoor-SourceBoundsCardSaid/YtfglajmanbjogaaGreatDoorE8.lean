import Derived.Test.YtfglajmanbjogaaGreatDoorM3
set_option autoImplicit false
set_option maxRecDepth 1000000
namespace Tb
open Go Hb
theorem e2_2 : ok3c 2 2 = true := by decide +kernel
theorem e3_1 : ok3c 3 1 = true := by decide +kernel
theorem e7_1 : ok3c 7 1 = true := by decide +kernel
theorem e10_2 : ok3c 10 2 = true := by decide +kernel
theorem e17_0 : ok3c 17 0 = true := by decide +kernel
theorem e17_3 : ok3c 17 3 = true := by decide +kernel
theorem e21_0 : ok3c 21 0 = true := by decide +kernel
theorem e25_2 : ok3c 25 2 = true := by decide +kernel
theorem e27_0 : ok3c 27 0 = true := by decide +kernel
theorem e27_4 : ok3c 27 4 = true := by decide +kernel
theorem e32_3 : ok3c 32 3 = true := by decide +kernel
end Tb
