import Derived.Test.YtbckhfmmoeegaaaGreatDoorM3
set_option autoImplicit false
set_option maxRecDepth 1000000
namespace Tb
open Go Hb
theorem e0_3_0 : okc 0 3 false = true := by decide +kernel
theorem e1_2_1 : okc 1 2 true = true := by decide +kernel
theorem e2_0_0 : okc 2 0 false = true := by decide +kernel
theorem e2_1_1 : okc 2 1 true = true := by decide +kernel
theorem e2_2_0 : okc 2 2 false = true := by decide +kernel
end Tb
