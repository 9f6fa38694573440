import Derived.Test.YtbckhfmmoeegaaaGreatDoorN3
set_option autoImplicit false
set_option maxRecDepth 1000000
namespace Tb
open Go Hb
theorem u6_7s : okS 6 7 105093 105094 105095 105096 107148 107149 321 = true := by decide +kernel
theorem u6_7p : okP 6 7 105093 105094 105095 105096 107148 107149 321 (vP 861 108006 7782 115037) 115039 = true := by decide +kernel
theorem u6_7l : okL 6 7 105093 (vP 861 108006 7782 115037) 115039 = true := by decide +kernel
theorem c6_7 : OKc 6 7 := OKc.of u6_7s u6_7p u6_7l
theorem u2_5s : okS 2 5 102157 102158 102159 102160 102868 102869 111 = true := by decide +kernel
theorem u2_5p : okP 2 5 102157 102158 102159 102160 102868 102869 111 (vP 369 103226 2620 105511) 105513 = true := by decide +kernel
theorem u2_5l : okL 2 5 102157 (vP 369 103226 2620 105511) 105513 = true := by decide +kernel
theorem c2_5 : OKc 2 5 := OKc.of u2_5s u2_5p u2_5l
theorem c3_1 : OKc 3 1 := OKc.one (by decide +kernel)
theorem c6_8 : OKc 6 8 := OKc.one (by decide +kernel)
end Tb
