import Derived.Test.YtbckhfmmoeegaaaGreatDoorN3
set_option autoImplicit false
set_option maxRecDepth 1000000
namespace Tb
open Go Hb
theorem u4_7s : okS 4 7 103877 103878 103879 103880 105356 105357 231 = true := by decide +kernel
theorem u4_7p : okP 4 7 103877 103878 103879 103880 105356 105357 231 (vP 615 105964 5568 110995) 110997 = true := by decide +kernel
theorem u4_7l : okL 4 7 103877 (vP 615 105964 5568 110995) 110997 = true := by decide +kernel
theorem c4_7 : OKc 4 7 := OKc.of u4_7s u4_7p u4_7l
theorem u4_4s : okS 4 4 102743 102744 102745 102746 103742 103743 156 = true := by decide +kernel
theorem u4_4p : okP 4 4 102743 102744 102745 102746 103742 103743 156 (vP 615 104350 3729 107512) 107514 = true := by decide +kernel
theorem u4_4l : okL 4 4 102743 (vP 615 104350 3729 107512) 107514 = true := by decide +kernel
theorem c4_4 : OKc 4 4 := OKc.of u4_4s u4_4p u4_4l
theorem u1_7s : okS 1 7 102053 102054 102055 102056 102668 102669 96 = true := by decide +kernel
theorem u1_7p : okP 1 7 102053 102054 102055 102056 102668 102669 96 (vP 246 102901 2247 104932) 104934 = true := by decide +kernel
theorem u1_7l : okL 1 7 102053 (vP 246 102901 2247 104932) 104934 = true := by decide +kernel
theorem c1_7 : OKc 1 7 := OKc.of u1_7s u1_7p u1_7l
theorem c1_0 : OKc 1 0 := OKc.one (by decide +kernel)
end Tb
