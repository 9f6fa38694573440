import Derived.Test.YtceefpkgodkpmaaGreatDoorN5
set_option autoImplicit false
set_option maxRecDepth 1000000
namespace Tb
open Go Hb
theorem c3f : OKc 3 false := OKc.one (by decide +kernel)
theorem t9t_3 : chkL b101 R0 a9t bl9t 3959 104319 (l6f_3.map en) = true := by decide +kernel
theorem t6t_2 : chkL b101 R0 a6t bl6t 2981 103242 (l6f_2.map en) = true := by decide +kernel
theorem t4t_1 : chkL b101 R0 a4t bl4t 2329 102524 (l4f_1.map en) = true := by decide +kernel
theorem q5f_9 : chkR b107 R0 r5f_9 = true := by decide +kernel
theorem q5f_1 : chkR b107 R0 r5f_1 = true := by decide +kernel
theorem t8f_4 : chkL b101 R0 a8f bl8f 3314 103624 (l6f_4.map en) = true := by decide +kernel
end Tb
