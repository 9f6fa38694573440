import Derived.Test.YtceefpkgodkpmaaGreatDoorN5
set_option autoImplicit false
set_option maxRecDepth 1000000
namespace Tb
open Go Hb
theorem f9t : isBool true 1000000000 (b3 (R9t) [.i .u8 (.ofNat 9),.b true] ⟨.e,0,0⟩) = true := by decide +kernel
theorem t6t_1 : chkL b101 R0 a6t bl6t 2981 103242 (l6f_1.map en) = true := by decide +kernel
theorem t7t_2 : chkL b101 R0 a7t bl7t 3307 103601 (l6f_2.map en) = true := by decide +kernel
theorem t5t_3 : chkL b101 R0 a5t bl5t 2655 102883 (l5f_3.map en) = true := by decide +kernel
theorem q5f_12 : chkR b107 R0 r5f_12 = true := by decide +kernel
theorem q4t_8 : chkR b107 R0 r4t_8 = true := by decide +kernel
theorem q5t_2 : chkR b107 R0 r5t_2 = true := by decide +kernel
theorem q4f_2 : chkR b107 R0 r4f_2 = true := by decide +kernel
end Tb
