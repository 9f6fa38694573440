import Derived.Test.YtbckhfmmoeegaaaGreatDoorN3
set_option autoImplicit false
set_option maxRecDepth 1000000
namespace Tb
open Go Hb
theorem u8_5s : okS 8 5 105049 105050 105051 105052 107104 107105 321 = true := by decide +kernel
theorem u8_5p : okP 8 5 105049 105050 105051 105052 107104 107105 321 (vP 1107 108212 7786 114997) 114999 = true := by decide +kernel
theorem u8_5l : okL 8 5 105049 (vP 1107 108212 7786 114997) 114999 = true := by decide +kernel
theorem c8_5 : OKc 8 5 := OKc.of u8_5s u8_5p u8_5l
theorem u5_2s : okS 5 2 102280 102281 102282 102283 103087 103088 126 = true := by decide +kernel
theorem u5_2p : okP 5 2 102280 102281 102282 102283 103087 103088 126 (vP 738 103820 2995 106111) 106113 = true := by decide +kernel
theorem u5_2l : okL 5 2 102280 (vP 738 103820 2995 106111) 106113 = true := by decide +kernel
theorem c5_2 : OKc 5 2 := OKc.of u5_2s u5_2p u5_2l
theorem c1_3 : OKc 1 3 := OKc.one (by decide +kernel)
theorem c0_1 : OKc 0 1 := OKc.one (by decide +kernel)
end Tb
