import Derived.Test.YtbckhfmmoeegaaaGreatDoorM3
set_option autoImplicit false
set_option maxRecDepth 1000000
namespace Tb
open Go Hb
theorem e0_1_0 : okc 0 1 false = true := by decide +kernel
theorem e1_3_1 : okc 1 3 true = true := by decide +kernel
theorem e3_0_1 : okc 3 0 true = true := by decide +kernel
theorem e3_1_1 : okc 3 1 true = true := by decide +kernel
end Tb
