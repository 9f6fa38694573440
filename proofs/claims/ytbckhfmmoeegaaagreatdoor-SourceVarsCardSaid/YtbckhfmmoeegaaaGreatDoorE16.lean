import Derived.Test.YtbckhfmmoeegaaaGreatDoorN3
set_option autoImplicit false
set_option maxRecDepth 1000000
namespace Tb
open Go Hb
theorem u3_8s : okS 3 8 103584 103585 103586 103587 104903 104904 206 = true := by decide +kernel
theorem u3_8p : okP 3 8 103584 103585 103586 103587 104903 104904 206 (vP 492 105386 4951 109915) 109917 = true := by decide +kernel
theorem u3_8l : okL 3 8 103584 (vP 492 105386 4951 109915) 109917 = true := by decide +kernel
theorem c3_8 : OKc 3 8 := OKc.of u3_8s u3_8p u3_8l
theorem u6_3s : okS 6 3 103077 103078 103079 103080 104236 104237 181 = true := by decide +kernel
theorem u6_3p : okP 6 3 103077 103078 103079 103080 104236 104237 181 (vP 861 105094 4346 108633) 108635 = true := by decide +kernel
theorem u6_3l : okL 6 3 103077 (vP 861 105094 4346 108633) 108635 = true := by decide +kernel
theorem c6_3 : OKc 6 3 := OKc.of u6_3s u6_3p u6_3l
theorem u2_4s : okS 2 4 101905 101906 101907 101908 102520 102521 96 = true := by decide +kernel
theorem u2_4p : okP 2 4 101905 101906 101907 101908 102520 102521 96 (vP 369 102878 2253 104790) 104792 = true := by decide +kernel
theorem u2_4l : okL 2 4 101905 (vP 369 102878 2253 104790) 104792 = true := by decide +kernel
theorem c2_4 : OKc 2 4 := OKc.of u2_4s u2_4p u2_4l
theorem c0_2 : OKc 0 2 := OKc.one (by decide +kernel)
end Tb
