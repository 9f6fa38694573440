import Derived.Test.YtfglajmanbjogaaGreatDoorM3
set_option autoImplicit false
set_option maxRecDepth 1000000
namespace Tb
open Go Hb
theorem e2_0 : ok3c 2 0 = true := by decide +kernel
theorem e2_1 : ok3c 2 1 = true := by decide +kernel
theorem e9_1 : ok3c 9 1 = true := by decide +kernel
theorem e12_2 : ok3c 12 2 = true := by decide +kernel
theorem e13_2 : ok3c 13 2 = true := by decide +kernel
theorem e22_4 : ok3c 22 4 = true := by decide +kernel
theorem e24_1 : ok3c 24 1 = true := by decide +kernel
theorem e29_2 : ok3c 29 2 = true := by decide +kernel
theorem e30_1 : ok3c 30 1 = true := by decide +kernel
theorem e31_4 : ok3c 31 4 = true := by decide +kernel
theorem e33_1 : ok3c 33 1 = true := by decide +kernel
end Tb
