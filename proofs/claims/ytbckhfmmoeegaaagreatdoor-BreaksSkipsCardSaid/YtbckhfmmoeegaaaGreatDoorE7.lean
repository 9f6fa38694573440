import Derived.Test.YtbckhfmmoeegaaaGreatDoorM3
set_option autoImplicit false
set_option maxRecDepth 1000000
namespace Tb
open Go Hb
theorem e0_2_1 : okc 0 2 true = true := by decide +kernel
theorem e1_0_0 : okc 1 0 false = true := by decide +kernel
theorem e1_3_0 : okc 1 3 false = true := by decide +kernel
theorem e3_3_0 : okc 3 3 false = true := by decide +kernel
theorem e4_1_1 : okc 4 1 true = true := by decide +kernel
end Tb
