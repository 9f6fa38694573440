import Derived.Test.YtceefpkgodkpmaaGreatDoorN5
set_option autoImplicit false
set_option maxRecDepth 1000000
namespace Tb
open Go Hb
theorem f7f : isBool true 1000000000 (b3 (R7f) [.i .u8 (.ofNat 7),.b false] ⟨.e,0,0⟩) = true := by decide +kernel
theorem t5f_1 : chkL b101 R0 a5f bl5f 2336 102547 (l5f_1.map en) = true := by decide +kernel
theorem t6t_3 : chkL b101 R0 a6t bl6t 2981 103242 (l6f_3.map en) = true := by decide +kernel
theorem t7t_0 : chkL b101 R0 a7t bl7t 3307 103601 (l5f_0.map en) = true := by decide +kernel
theorem q5t_11 : chkR b107 R0 r5t_11 = true := by decide +kernel
theorem q5f_5 : chkR b107 R0 r5f_5 = true := by decide +kernel
theorem q5f_2 : chkR b107 R0 r5f_2 = true := by decide +kernel
theorem q4f_1 : chkR b107 R0 r4f_1 = true := by decide +kernel
end Tb
