import Derived.Test.YtfglajmanbjogaaGreatDoorM3
set_option autoImplicit false
set_option maxRecDepth 1000000
namespace Tb
open Go Hb
theorem e2_4 : ok3c 2 4 = true := by decide +kernel
theorem e7_3 : ok3c 7 3 = true := by decide +kernel
theorem e8_1 : ok3c 8 1 = true := by decide +kernel
theorem e10_3 : ok3c 10 3 = true := by decide +kernel
theorem e15_2 : ok3c 15 2 = true := by decide +kernel
theorem e19_0 : ok3c 19 0 = true := by decide +kernel
theorem e21_3 : ok3c 21 3 = true := by decide +kernel
theorem e25_4 : ok3c 25 4 = true := by decide +kernel
theorem e29_4 : ok3c 29 4 = true := by decide +kernel
theorem e33_3 : ok3c 33 3 = true := by decide +kernel
theorem e34_0 : ok3c 34 0 = true := by decide +kernel
end Tb
