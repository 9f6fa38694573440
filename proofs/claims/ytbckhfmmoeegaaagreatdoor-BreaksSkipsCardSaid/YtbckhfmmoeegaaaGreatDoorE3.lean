import Derived.Test.YtbckhfmmoeegaaaGreatDoorM3
set_option autoImplicit false
set_option maxRecDepth 1000000
namespace Tb
open Go Hb
theorem e0_0_1 : okc 0 0 true = true := by decide +kernel
theorem e1_0_1 : okc 1 0 true = true := by decide +kernel
theorem e3_0_0 : okc 3 0 false = true := by decide +kernel
theorem e4_0_0 : okc 4 0 false = true := by decide +kernel
theorem e4_2_0 : okc 4 2 false = true := by decide +kernel
theorem e4_2_1 : okc 4 2 true = true := by decide +kernel
end Tb
