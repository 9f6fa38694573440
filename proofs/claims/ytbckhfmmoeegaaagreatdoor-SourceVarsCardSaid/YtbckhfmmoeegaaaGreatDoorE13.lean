import Derived.Test.YtbckhfmmoeegaaaGreatDoorN3
set_option autoImplicit false
set_option maxRecDepth 1000000
namespace Tb
open Go Hb
theorem u8_3s : okS 8 3 103789 103790 103791 103792 105268 105269 231 = true := by decide +kernel
theorem u8_3p : okP 8 3 103789 103790 103791 103792 105268 105269 231 (vP 1107 106376 5576 110915) 110917 = true := by decide +kernel
theorem u8_3l : okL 8 3 103789 (vP 1107 106376 5576 110915) 110917 = true := by decide +kernel
theorem c8_3 : OKc 8 3 := OKc.of u8_3s u8_3p u8_3l
theorem u2_8s : okS 2 8 102913 102914 102915 102916 103912 103913 156 = true := by decide +kernel
theorem u2_8p : okP 2 8 102913 102914 102915 102916 103912 103913 156 (vP 369 104270 3721 107674) 107676 = true := by decide +kernel
theorem u2_8l : okL 2 8 102913 (vP 369 104270 3721 107674) 107676 = true := by decide +kernel
theorem c2_8 : OKc 2 8 := OKc.of u2_8s u2_8p u2_8l
theorem u5_1s : okS 5 1 101839 101840 101841 101842 102454 102455 96 = true := by decide +kernel
theorem u5_1p : okP 5 1 101839 101840 101841 101842 102454 102455 96 (vP 738 103187 2259 104730) 104732 = true := by decide +kernel
theorem u5_1l : okL 5 1 101839 (vP 738 103187 2259 104730) 104732 = true := by decide +kernel
theorem c5_1 : OKc 5 1 := OKc.of u5_1s u5_1p u5_1l
theorem c0_3 : OKc 0 3 := OKc.one (by decide +kernel)
end Tb
