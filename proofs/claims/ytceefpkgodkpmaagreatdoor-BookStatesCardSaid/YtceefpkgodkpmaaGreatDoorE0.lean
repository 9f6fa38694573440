import Derived.Test.YtceefpkgodkpmaaGreatDoorN5
set_option autoImplicit false
set_option maxRecDepth 1000000
namespace Tb
open Go Hb
theorem c3t : OKc 3 true := OKc.one (by decide +kernel)
theorem t5t_2 : chkL b101 R0 a5t bl5t 2655 102883 (l5f_2.map en) = true := by decide +kernel
theorem t6t_0 : chkL b101 R0 a6t bl6t 2981 103242 (l5f_0.map en) = true := by decide +kernel
theorem q5f_14 : chkR b107 R0 r5f_14 = true := by decide +kernel
theorem q5f_4 : chkR b107 R0 r5f_4 = true := by decide +kernel
theorem q5f_3 : chkR b107 R0 r5f_3 = true := by decide +kernel
theorem q4t_1 : chkR b107 R0 r4t_1 = true := by decide +kernel
end Tb
