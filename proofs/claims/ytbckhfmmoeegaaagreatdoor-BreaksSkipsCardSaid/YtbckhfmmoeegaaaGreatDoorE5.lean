import Derived.Test.YtbckhfmmoeegaaaGreatDoorM3
set_option autoImplicit false
set_option maxRecDepth 1000000
namespace Tb
open Go Hb
theorem e0_2_0 : okc 0 2 false = true := by decide +kernel
theorem e1_1_1 : okc 1 1 true = true := by decide +kernel
theorem e1_2_0 : okc 1 2 false = true := by decide +kernel
theorem e2_1_0 : okc 2 1 false = true := by decide +kernel
theorem e2_2_1 : okc 2 2 true = true := by decide +kernel
end Tb
