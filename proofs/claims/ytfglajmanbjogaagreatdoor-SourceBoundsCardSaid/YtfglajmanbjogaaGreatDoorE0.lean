import Derived.Test.YtfglajmanbjogaaGreatDoorM3
set_option autoImplicit false
set_option maxRecDepth 1000000
namespace Tb
open Go Hb
theorem e1_1 : ok3c 1 1 = true := by decide +kernel
theorem e5_1 : ok3c 5 1 = true := by decide +kernel
theorem e6_2 : ok3c 6 2 = true := by decide +kernel
theorem e7_0 : ok3c 7 0 = true := by decide +kernel
theorem e17_2 : ok3c 17 2 = true := by decide +kernel
theorem e21_2 : ok3c 21 2 = true := by decide +kernel
theorem e25_1 : ok3c 25 1 = true := by decide +kernel
theorem e25_3 : ok3c 25 3 = true := by decide +kernel
theorem e29_3 : ok3c 29 3 = true := by decide +kernel
theorem e33_2 : ok3c 33 2 = true := by decide +kernel
theorem e35_0 : ok3c 35 0 = true := by decide +kernel
end Tb
