import Derived.Test.YtbckhfmmoeegaaaGreatDoorN3
set_option autoImplicit false
set_option maxRecDepth 1000000
namespace Tb
open Go Hb
theorem u5_8s : okS 5 8 104926 104927 104928 104929 106885 106886 306 = true := by decide +kernel
theorem u5_8p : okP 5 8 104926 104927 104928 104929 106885 106886 306 (vP 738 107618 7411 114397) 114399 = true := by decide +kernel
theorem u5_8l : okL 5 8 104926 (vP 738 107618 7411 114397) 114399 = true := by decide +kernel
theorem c5_8 : OKc 5 8 := OKc.of u5_8s u5_8p u5_8l
theorem u7_1s : okS 7 1 102299 102300 102301 102302 103106 103107 126 = true := by decide +kernel
theorem u7_1p : okP 7 1 102299 102300 102301 102302 103106 103107 126 (vP 984 104089 2997 106132) 106134 = true := by decide +kernel
theorem u7_1l : okL 7 1 102299 (vP 984 104089 2997 106132) 106134 = true := by decide +kernel
theorem c7_1 : OKc 7 1 := OKc.of u7_1s u7_1p u7_1l
theorem c2_2 : OKc 2 2 := OKc.one (by decide +kernel)
theorem c8_6 : OKc 8 6 := OKc.one (by decide +kernel)
end Tb
