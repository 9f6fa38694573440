import Derived.Test.YtfglajmanbjogaaGreatDoorM3
set_option autoImplicit false
set_option maxRecDepth 1000000
namespace Tb
open Go Hb
theorem e3_0 : ok3c 3 0 = true := by decide +kernel
theorem e3_4 : ok3c 3 4 = true := by decide +kernel
theorem e11_4 : ok3c 11 4 = true := by decide +kernel
theorem e14_3 : ok3c 14 3 = true := by decide +kernel
theorem e19_2 : ok3c 19 2 = true := by decide +kernel
theorem e20_0 : ok3c 20 0 = true := by decide +kernel
theorem e22_3 : ok3c 22 3 = true := by decide +kernel
theorem e26_3 : ok3c 26 3 = true := by decide +kernel
theorem e30_3 : ok3c 30 3 = true := by decide +kernel
theorem e31_0 : ok3c 31 0 = true := by decide +kernel
theorem e34_2 : ok3c 34 2 = true := by decide +kernel
end Tb
