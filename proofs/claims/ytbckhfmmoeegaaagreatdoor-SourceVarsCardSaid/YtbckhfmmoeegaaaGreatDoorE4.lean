import Derived.Test.YtbckhfmmoeegaaaGreatDoorN3
set_option autoImplicit false
set_option maxRecDepth 1000000
namespace Tb
open Go Hb
theorem u6_6s : okS 6 6 104589 104590 104591 104592 106420 106421 286 = true := by decide +kernel
theorem u6_6p : okP 6 6 104589 104590 104591 104592 106420 106421 286 (vP 861 107278 6923 113436) 113438 = true := by decide +kernel
theorem u6_6l : okL 6 6 104589 (vP 861 107278 6923 113436) 113438 = true := by decide +kernel
theorem c6_6 : OKc 6 6 := OKc.of u6_6s u6_6p u6_6l
theorem u3_4s : okS 3 4 102324 102325 102326 102327 103131 103132 126 = true := by decide +kernel
theorem u3_4p : okP 3 4 102324 102325 102326 102327 103131 103132 126 (vP 492 103614 2991 106151) 106153 = true := by decide +kernel
theorem u3_4l : okL 3 4 102324 (vP 492 103614 2991 106151) 106153 = true := by decide +kernel
theorem c3_4 : OKc 3 4 := OKc.of u3_4s u3_4p u3_4l
theorem c6_0 : OKc 6 0 := OKc.one (by decide +kernel)
theorem c8_8 : OKc 8 8 := OKc.one (by decide +kernel)
end Tb
