import Derived.Test.YtfglajmanbjogaaGreatDoorM3
set_option autoImplicit false
set_option maxRecDepth 1000000
namespace Tb
open Go Hb
theorem e4_4 : ok3c 4 4 = true := by decide +kernel
theorem e5_4 : ok3c 5 4 = true := by decide +kernel
theorem e6_0 : ok3c 6 0 = true := by decide +kernel
theorem e13_4 : ok3c 13 4 = true := by decide +kernel
theorem e14_1 : ok3c 14 1 = true := by decide +kernel
theorem e20_2 : ok3c 20 2 = true := by decide +kernel
theorem e22_0 : ok3c 22 0 = true := by decide +kernel
theorem e23_1 : ok3c 23 1 = true := by decide +kernel
theorem e23_2 : ok3c 23 2 = true := by decide +kernel
theorem e28_2 : ok3c 28 2 = true := by decide +kernel
theorem e34_1 : ok3c 34 1 = true := by decide +kernel
end Tb
