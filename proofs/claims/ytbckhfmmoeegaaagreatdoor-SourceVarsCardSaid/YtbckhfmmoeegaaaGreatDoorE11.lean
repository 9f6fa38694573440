import Derived.Test.YtbckhfmmoeegaaaGreatDoorN3
set_option autoImplicit false
set_option maxRecDepth 1000000
namespace Tb
open Go Hb
theorem u7_4s : okS 7 4 104000 104001 104002 104003 105575 105576 246 = true := by decide +kernel
theorem u7_4p : okP 7 4 104000 104001 104002 104003 105575 105576 246 (vP 984 106558 5943 111595) 111597 = true := by decide +kernel
theorem u7_4l : okL 7 4 104000 (vP 984 106558 5943 111595) 111597 = true := by decide +kernel
theorem c7_4 : OKc 7 4 := OKc.of u7_4s u7_4p u7_4l
theorem u5_3s : okS 5 3 102721 102722 102723 102724 103720 103721 156 = true := by decide +kernel
theorem u5_3p : okP 5 3 102721 102722 102723 102724 103720 103721 156 (vP 738 104453 3731 107492) 107494 = true := by decide +kernel
theorem u5_3l : okL 5 3 102721 (vP 738 104453 3731 107492) 107494 = true := by decide +kernel
theorem c5_3 : OKc 5 3 := OKc.of u5_3s u5_3p u5_3l
theorem c4_1 : OKc 4 1 := OKc.one (by decide +kernel)
theorem c1_2 : OKc 1 2 := OKc.one (by decide +kernel)
end Tb
