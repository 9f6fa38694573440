import Derived.Test.YtfglajmanbjogaaGreatDoorM3
set_option autoImplicit false
set_option maxRecDepth 1000000
namespace Tb
open Go Hb
theorem e1_3 : ok3c 1 3 = true := by decide +kernel
theorem e4_1 : ok3c 4 1 = true := by decide +kernel
theorem e8_0 : ok3c 8 0 = true := by decide +kernel
theorem e8_3 : ok3c 8 3 = true := by decide +kernel
theorem e11_1 : ok3c 11 1 = true := by decide +kernel
theorem e13_1 : ok3c 13 1 = true := by decide +kernel
theorem e17_1 : ok3c 17 1 = true := by decide +kernel
theorem e17_4 : ok3c 17 4 = true := by decide +kernel
theorem e22_2 : ok3c 22 2 = true := by decide +kernel
theorem e33_0 : ok3c 33 0 = true := by decide +kernel
theorem e33_4 : ok3c 33 4 = true := by decide +kernel
end Tb
