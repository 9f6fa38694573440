import Derived.Test.YtbckhfmmoeegaaaGreatDoorN3
set_option autoImplicit false
set_option maxRecDepth 1000000
namespace Tb
open Go Hb
theorem u5_6s : okS 5 6 104044 104045 104046 104047 105619 105620 246 = true := by decide +kernel
theorem u5_6p : okP 5 6 104044 104045 104046 104047 105619 105620 246 (vP 738 106352 5939 111635) 111637 = true := by decide +kernel
theorem u5_6l : okL 5 6 104044 (vP 738 106352 5939 111635) 111637 = true := by decide +kernel
theorem c5_6 : OKc 5 6 := OKc.of u5_6s u5_6p u5_6l
theorem u3_5s : okS 3 5 102639 102640 102641 102642 103574 103575 146 = true := by decide +kernel
theorem u3_5p : okP 3 5 102639 102640 102641 102642 103574 103575 146 (vP 492 104057 3481 107092) 107094 = true := by decide +kernel
theorem u3_5l : okL 3 5 102639 (vP 492 104057 3481 107092) 107094 = true := by decide +kernel
theorem c3_5 : OKc 3 5 := OKc.of u3_5s u3_5p u3_5l
theorem u7_0s : okS 7 0 101732 101733 101734 101735 102283 102284 86 = true := by decide +kernel
theorem u7_0p : okP 7 0 101732 101733 101734 101735 102283 102284 86 (vP 984 103266 2015 104311) 104313 = true := by decide +kernel
theorem u7_0l : okL 7 0 101732 (vP 984 103266 2015 104311) 104313 = true := by decide +kernel
theorem c7_0 : OKc 7 0 := OKc.of u7_0s u7_0p u7_0l
theorem c4_0 : OKc 4 0 := OKc.one (by decide +kernel)
end Tb
