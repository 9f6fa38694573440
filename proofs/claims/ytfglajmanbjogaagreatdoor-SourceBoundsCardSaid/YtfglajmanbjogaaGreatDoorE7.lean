import Derived.Test.YtfglajmanbjogaaGreatDoorM3
set_option autoImplicit false
set_option maxRecDepth 1000000
namespace Tb
open Go Hb
theorem e1_4 : ok3c 1 4 = true := by decide +kernel
theorem e8_4 : ok3c 8 4 = true := by decide +kernel
theorem e9_3 : ok3c 9 3 = true := by decide +kernel
theorem e15_0 : ok3c 15 0 = true := by decide +kernel
theorem e15_1 : ok3c 15 1 = true := by decide +kernel
theorem e16_3 : ok3c 16 3 = true := by decide +kernel
theorem e18_3 : ok3c 18 3 = true := by decide +kernel
theorem e24_2 : ok3c 24 2 = true := by decide +kernel
theorem e27_2 : ok3c 27 2 = true := by decide +kernel
theorem e28_0 : ok3c 28 0 = true := by decide +kernel
theorem e28_1 : ok3c 28 1 = true := by decide +kernel
end Tb
