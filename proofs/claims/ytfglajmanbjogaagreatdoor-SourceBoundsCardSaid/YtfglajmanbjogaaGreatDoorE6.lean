import Derived.Test.YtfglajmanbjogaaGreatDoorM3
set_option autoImplicit false
set_option maxRecDepth 1000000
namespace Tb
open Go Hb
theorem e1_0 : ok3c 1 0 = true := by decide +kernel
theorem e7_4 : ok3c 7 4 = true := by decide +kernel
theorem e9_0 : ok3c 9 0 = true := by decide +kernel
theorem e10_4 : ok3c 10 4 = true := by decide +kernel
theorem e13_0 : ok3c 13 0 = true := by decide +kernel
theorem e15_3 : ok3c 15 3 = true := by decide +kernel
theorem e24_4 : ok3c 24 4 = true := by decide +kernel
theorem e27_1 : ok3c 27 1 = true := by decide +kernel
theorem e29_0 : ok3c 29 0 = true := by decide +kernel
theorem e31_2 : ok3c 31 2 = true := by decide +kernel
theorem e34_4 : ok3c 34 4 = true := by decide +kernel
end Tb
