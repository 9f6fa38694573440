import Derived.Test.YtceefpkgodkpmaaGreatDoorN5
set_option autoImplicit false
set_option maxRecDepth 1000000
namespace Tb
open Go Hb
theorem c2f : OKc 2 false := OKc.one (by decide +kernel)
theorem c1t : OKc 1 true := OKc.one (by decide +kernel)
theorem t7f_3 : chkL b101 R0 a7f bl7f 2988 103265 (l6f_3.map en) = true := by decide +kernel
theorem t8f_0 : chkL b101 R0 a8f bl8f 3314 103624 (l5f_0.map en) = true := by decide +kernel
theorem q5t_12 : chkR b107 R0 r5t_12 = true := by decide +kernel
theorem q5t_5 : chkR b107 R0 r5t_5 = true := by decide +kernel
theorem q4f_10 : chkR b107 R0 r4f_10 = true := by decide +kernel
theorem q4t_2 : chkR b107 R0 r4t_2 = true := by decide +kernel
end Tb
