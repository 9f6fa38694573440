import Derived.Test.YtfglajmanbjogaaGreatDoorM3
set_option autoImplicit false
set_option maxRecDepth 1000000
namespace Tb
open Go Hb
theorem e1_2 : ok3c 1 2 = true := by decide +kernel
theorem e8_2 : ok3c 8 2 = true := by decide +kernel
theorem e9_2 : ok3c 9 2 = true := by decide +kernel
theorem e12_0 : ok3c 12 0 = true := by decide +kernel
theorem e16_2 : ok3c 16 2 = true := by decide +kernel
theorem e18_0 : ok3c 18 0 = true := by decide +kernel
theorem e18_2 : ok3c 18 2 = true := by decide +kernel
theorem e23_0 : ok3c 23 0 = true := by decide +kernel
theorem e24_0 : ok3c 24 0 = true := by decide +kernel
theorem e27_3 : ok3c 27 3 = true := by decide +kernel
theorem e32_2 : ok3c 32 2 = true := by decide +kernel
end Tb
