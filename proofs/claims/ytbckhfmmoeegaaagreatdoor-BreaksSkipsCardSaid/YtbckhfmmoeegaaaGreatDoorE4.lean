import Derived.Test.YtbckhfmmoeegaaaGreatDoorM3
set_option autoImplicit false
set_option maxRecDepth 1000000
namespace Tb
open Go Hb
theorem e0_1_1 : okc 0 1 true = true := by decide +kernel
theorem e0_3_1 : okc 0 3 true = true := by decide +kernel
theorem e2_3_0 : okc 2 3 false = true := by decide +kernel
theorem e3_1_0 : okc 3 1 false = true := by decide +kernel
theorem e4_3_0 : okc 4 3 false = true := by decide +kernel
end Tb
