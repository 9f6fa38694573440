import Derived.Test.YtbckhfmmoeegaaaGreatDoorN3
set_option autoImplicit false
set_option maxRecDepth 1000000
namespace Tb
open Go Hb
theorem u4_8s : okS 4 8 104255 104256 104257 104258 105894 105895 256 = true := by decide +kernel
theorem u4_8p : okP 4 8 104255 104256 104257 104258 105894 105895 256 (vP 615 106502 6181 112156) 112158 = true := by decide +kernel
theorem u4_8l : okL 4 8 104255 (vP 615 106502 6181 112156) 112158 = true := by decide +kernel
theorem c4_8 : OKc 4 8 := OKc.of u4_8s u4_8p u4_8l
theorem u2_7s : okS 2 7 102661 102662 102663 102664 103564 103565 141 = true := by decide +kernel
theorem u2_7p : okP 2 7 102661 102662 102663 102664 103564 103565 141 (vP 369 103922 3354 106953) 106955 = true := by decide +kernel
theorem u2_7l : okL 2 7 102661 (vP 369 103922 3354 106953) 106955 = true := by decide +kernel
theorem c2_7 : OKc 2 7 := OKc.of u2_7s u2_7p u2_7l
theorem c2_3 : OKc 2 3 := OKc.one (by decide +kernel)
theorem c0_6 : OKc 0 6 := OKc.one (by decide +kernel)
end Tb
