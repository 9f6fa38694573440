import Derived.Test.YtbckhfmmoeegaaaGreatDoorN3
set_option autoImplicit false
set_option maxRecDepth 1000000
namespace Tb
open Go Hb
theorem u4_6s : okS 4 6 103499 103500 103501 103502 104818 104819 206 = true := by decide +kernel
theorem u4_6p : okP 4 6 103499 103500 103501 103502 104818 104819 206 (vP 615 105426 4955 109834) 109836 = true := by decide +kernel
theorem u4_6l : okL 4 6 103499 (vP 615 105426 4955 109834) 109836 = true := by decide +kernel
theorem c4_6 : OKc 4 6 := OKc.of u4_6s u4_6p u4_6l
theorem u4_5s : okS 4 5 103121 103122 103123 103124 104280 104281 181 = true := by decide +kernel
theorem u4_5p : okP 4 5 103121 103122 103123 103124 104280 104281 181 (vP 615 104888 4342 108673) 108675 = true := by decide +kernel
theorem u4_5l : okL 4 5 103121 (vP 615 104888 4342 108673) 108675 = true := by decide +kernel
theorem c4_5 : OKc 4 5 := OKc.of u4_5s u4_5p u4_5l
theorem u8_0s : okS 8 0 101899 101900 101901 101902 102514 102515 96 = true := by decide +kernel
theorem u8_0p : okP 8 0 101899 101900 101901 101902 102514 102515 96 (vP 1107 103622 2261 104792) 104794 = true := by decide +kernel
theorem u8_0l : okL 8 0 101899 (vP 1107 103622 2261 104792) 104794 = true := by decide +kernel
theorem c8_0 : OKc 8 0 := OKc.of u8_0s u8_0p u8_0l
theorem c2_0 : OKc 2 0 := OKc.one (by decide +kernel)
end Tb
