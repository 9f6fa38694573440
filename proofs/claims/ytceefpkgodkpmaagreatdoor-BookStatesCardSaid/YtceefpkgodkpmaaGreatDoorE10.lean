import Derived.Test.YtceefpkgodkpmaaGreatDoorN5
set_option autoImplicit false
set_option maxRecDepth 1000000
namespace Tb
open Go Hb
theorem c2t : OKc 2 true := OKc.one (by decide +kernel)
theorem t9t_1 : chkL b101 R0 a9t bl9t 3959 104319 (l6f_1.map en) = true := by decide +kernel
theorem t6f_3 : chkL b101 R0 a6f bl6f 2662 102906 (l6f_3.map en) = true := by decide +kernel
theorem t7f_0 : chkL b101 R0 a7f bl7f 2988 103265 (l5f_0.map en) = true := by decide +kernel
theorem q5t_10 : chkR b107 R0 r5t_10 = true := by decide +kernel
theorem q5t_4 : chkR b107 R0 r5t_4 = true := by decide +kernel
theorem q4f_8 : chkR b107 R0 r4f_8 = true := by decide +kernel
theorem q5f_0 : chkR b107 R0 r5f_0 = true := by decide +kernel
theorem t7f_4 : chkL b101 R0 a7f bl7f 2988 103265 (l6f_4.map en) = true := by decide +kernel
end Tb
