import Derived.Test.YtbckhfmmoeegaaaGreatDoorN3
set_option autoImplicit false
set_option maxRecDepth 1000000
namespace Tb
open Go Hb
theorem u5_5s : okS 5 5 103603 103604 103605 103606 104986 104987 216 = true := by decide +kernel
theorem u5_5p : okP 5 5 103603 103604 103605 103606 104986 104987 216 (vP 738 105719 5203 110254) 110256 = true := by decide +kernel
theorem u5_5l : okL 5 5 103603 (vP 738 105719 5203 110254) 110256 = true := by decide +kernel
theorem c5_5 : OKc 5 5 := OKc.of u5_5s u5_5p u5_5l
theorem u7_2s : okS 7 2 102866 102867 102868 102869 103929 103930 166 = true := by decide +kernel
theorem u7_2p : okP 7 2 102866 102867 102868 102869 103929 103930 166 (vP 984 104912 3979 107953) 107955 = true := by decide +kernel
theorem u7_2l : okL 7 2 102866 (vP 984 104912 3979 107953) 107955 = true := by decide +kernel
theorem c7_2 : OKc 7 2 := OKc.of u7_2s u7_2p u7_2l
theorem u3_3s : okS 3 3 102009 102010 102011 102012 102688 102689 106 = true := by decide +kernel
theorem u3_3p : okP 3 3 102009 102010 102011 102012 102688 102689 106 (vP 492 103171 2501 105210) 105212 = true := by decide +kernel
theorem u3_3l : okL 3 3 102009 (vP 492 103171 2501 105210) 105212 = true := by decide +kernel
theorem c3_3 : OKc 3 3 := OKc.of u3_3s u3_3p u3_3l
theorem c7_8 : OKc 7 8 := OKc.one (by decide +kernel)
theorem c0_0 : OKc 0 0 := OKc.one (by decide +kernel)
end Tb
