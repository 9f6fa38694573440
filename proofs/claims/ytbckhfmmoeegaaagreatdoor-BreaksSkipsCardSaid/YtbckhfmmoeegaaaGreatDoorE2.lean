import Derived.Test.YtbckhfmmoeegaaaGreatDoorM3
set_option autoImplicit false
set_option maxRecDepth 1000000
namespace Tb
open Go Hb
theorem e0_0_0 : okc 0 0 false = true := by decide +kernel
theorem e2_0_1 : okc 2 0 true = true := by decide +kernel
theorem e3_2_0 : okc 3 2 false = true := by decide +kernel
theorem e3_2_1 : okc 3 2 true = true := by decide +kernel
theorem e4_3_1 : okc 4 3 true = true := by decide +kernel
end Tb
