import Derived.Test.YtfglajmanbjogaaGreatDoorM3
set_option autoImplicit false
set_option maxRecDepth 1000000
namespace Tb
open Go Hb
theorem e4_2 : ok3c 4 2 = true := by decide +kernel
theorem e5_2 : ok3c 5 2 = true := by decide +kernel
theorem e10_0 : ok3c 10 0 = true := by decide +kernel
theorem e12_1 : ok3c 12 1 = true := by decide +kernel
theorem e12_3 : ok3c 12 3 = true := by decide +kernel
theorem e13_3 : ok3c 13 3 = true := by decide +kernel
theorem e16_0 : ok3c 16 0 = true := by decide +kernel
theorem e20_1 : ok3c 20 1 = true := by decide +kernel
theorem e23_4 : ok3c 23 4 = true := by decide +kernel
theorem e25_0 : ok3c 25 0 = true := by decide +kernel
theorem e35_4 : ok3c 35 4 = true := by decide +kernel
end Tb
