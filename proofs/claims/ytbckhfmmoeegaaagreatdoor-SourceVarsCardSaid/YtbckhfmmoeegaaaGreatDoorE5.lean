import Derived.Test.YtbckhfmmoeegaaaGreatDoorN3
set_option autoImplicit false
set_option maxRecDepth 1000000
namespace Tb
open Go Hb
theorem u7_5s : okS 7 5 104567 104568 104569 104570 106398 106399 286 = true := by decide +kernel
theorem u7_5p : okP 7 5 104567 104568 104569 104570 106398 106399 286 (vP 984 107381 6925 113416) 113418 = true := by decide +kernel
theorem u7_5l : okL 7 5 104567 (vP 984 107381 6925 113416) 113418 = true := by decide +kernel
theorem c7_5 : OKc 7 5 := OKc.of u7_5s u7_5p u7_5l
theorem u2_6s : okS 2 6 102409 102410 102411 102412 103216 103217 126 = true := by decide +kernel
theorem u2_6p : okP 2 6 102409 102410 102411 102412 103216 103217 126 (vP 369 103574 2987 106232) 106234 = true := by decide +kernel
theorem u2_6l : okL 2 6 102409 (vP 369 103574 2987 106232) 106234 = true := by decide +kernel
theorem c2_6 : OKc 2 6 := OKc.of u2_6s u2_6p u2_6l
theorem c1_4 : OKc 1 4 := OKc.one (by decide +kernel)
theorem c0_7 : OKc 0 7 := OKc.one (by decide +kernel)
end Tb
