import Derived.Test.YtbckhfmmoeegaaaGreatDoorM3
set_option autoImplicit false
set_option maxRecDepth 1000000
namespace Tb
open Go Hb
theorem e1_1_0 : okc 1 1 false = true := by decide +kernel
theorem e2_3_1 : okc 2 3 true = true := by decide +kernel
theorem e3_3_1 : okc 3 3 true = true := by decide +kernel
theorem e4_0_1 : okc 4 0 true = true := by decide +kernel
theorem e4_1_0 : okc 4 1 false = true := by decide +kernel
end Tb
