import Derived.Test.YtbckhfmmoeegaaaGreatDoorN3
set_option autoImplicit false
set_option maxRecDepth 1000000
namespace Tb
open Go Hb
theorem u7_6s : okS 7 6 105134 105135 105136 105137 107221 107222 326 = true := by decide +kernel
theorem u7_6p : okP 7 6 105134 105135 105136 105137 107221 107222 326 (vP 984 108204 7907 115237) 115239 = true := by decide +kernel
theorem u7_6l : okL 7 6 105134 (vP 984 108204 7907 115237) 115239 = true := by decide +kernel
theorem c7_6 : OKc 7 6 := OKc.of u7_6s u7_6p u7_6l
theorem u6_1s : okS 6 1 102069 102070 102071 102072 102780 102781 111 = true := by decide +kernel
theorem u6_1p : okP 6 1 102069 102070 102071 102072 102780 102781 111 (vP 861 103638 2628 105431) 105433 = true := by decide +kernel
theorem u6_1l : okL 6 1 102069 (vP 861 103638 2628 105431) 105433 = true := by decide +kernel
theorem c6_1 : OKc 6 1 := OKc.of u6_1s u6_1p u6_1l
theorem c0_8 : OKc 0 8 := OKc.one (by decide +kernel)
theorem c7_7 : OKc 7 7 := OKc.one (by decide +kernel)
end Tb
