import Derived.Test.YtbckhfmmoeegaaaGreatDoorN3
set_option autoImplicit false
set_option maxRecDepth 1000000
namespace Tb
open Go Hb
theorem u6_5s : okS 6 5 104085 104086 104087 104088 105692 105693 251 = true := by decide +kernel
theorem u6_5p : okP 6 5 104085 104086 104087 104088 105692 105693 251 (vP 861 106550 6064 111835) 111837 = true := by decide +kernel
theorem u6_5l : okL 6 5 104085 (vP 861 106550 6064 111835) 111837 = true := by decide +kernel
theorem c6_5 : OKc 6 5 := OKc.of u6_5s u6_5p u6_5l
theorem u6_2s : okS 6 2 102573 102574 102575 102576 103508 103509 146 = true := by decide +kernel
theorem u6_2p : okP 6 2 102573 102574 102575 102576 103508 103509 146 (vP 861 104366 3487 107032) 107034 = true := by decide +kernel
theorem u6_2l : okL 6 2 102573 (vP 861 104366 3487 107032) 107034 = true := by decide +kernel
theorem c6_2 : OKc 6 2 := OKc.of u6_2s u6_2p u6_2l
theorem u3_2s : okS 3 2 101694 101695 101696 101697 102245 102246 86 = true := by decide +kernel
theorem u3_2p : okP 3 2 101694 101695 101696 101697 102245 102246 86 (vP 492 102728 2011 104269) 104271 = true := by decide +kernel
theorem u3_2l : okL 3 2 101694 (vP 492 102728 2011 104269) 104271 = true := by decide +kernel
theorem c3_2 : OKc 3 2 := OKc.of u3_2s u3_2p u3_2l
theorem c3_0 : OKc 3 0 := OKc.one (by decide +kernel)
end Tb
