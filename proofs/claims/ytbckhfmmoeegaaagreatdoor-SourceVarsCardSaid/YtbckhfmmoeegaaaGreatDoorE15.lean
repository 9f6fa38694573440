import Derived.Test.YtbckhfmmoeegaaaGreatDoorN3
set_option autoImplicit false
set_option maxRecDepth 1000000
namespace Tb
open Go Hb
theorem u6_4s : okS 6 4 103581 103582 103583 103584 104964 104965 216 = true := by decide +kernel
theorem u6_4p : okP 6 4 103581 103582 103583 103584 104964 104965 216 (vP 861 105822 5205 110234) 110236 = true := by decide +kernel
theorem u6_4l : okL 6 4 103581 (vP 861 105822 5205 110234) 110236 = true := by decide +kernel
theorem c6_4 : OKc 6 4 := OKc.of u6_4s u6_4p u6_4l
theorem u3_6s : okS 3 6 102954 102955 102956 102957 104017 104018 166 = true := by decide +kernel
theorem u3_6p : okP 3 6 102954 102955 102956 102957 104017 104018 166 (vP 492 104500 3971 108033) 108035 = true := by decide +kernel
theorem u3_6l : okL 3 6 102954 (vP 492 104500 3971 108033) 108035 = true := by decide +kernel
theorem c3_6 : OKc 3 6 := OKc.of u3_6s u3_6p u3_6l
theorem u4_2s : okS 4 2 101987 101988 101989 101990 102666 102667 106 = true := by decide +kernel
theorem u4_2p : okP 4 2 101987 101988 101989 101990 102666 102667 106 (vP 615 103274 2503 105190) 105192 = true := by decide +kernel
theorem u4_2l : okL 4 2 101987 (vP 615 103274 2503 105190) 105192 = true := by decide +kernel
theorem c4_2 : OKc 4 2 := OKc.of u4_2s u4_2p u4_2l
theorem c8_7 : OKc 8 7 := OKc.one (by decide +kernel)
end Tb
