import Derived.Test.YtceefpkgodkpmaaGreatDoorN5
set_option autoImplicit false
set_option maxRecDepth 1000000
namespace Tb
open Go Hb
theorem f4t : isBool true 1000000000 (b3 (R4t) [.i .u8 (.ofNat 4),.b true] ⟨.e,0,0⟩) = true := by decide +kernel
theorem t8f_1 : chkL b101 R0 a8f bl8f 3314 103624 (l6f_1.map en) = true := by decide +kernel
theorem t9f_2 : chkL b101 R0 a9f bl9f 3640 103983 (l6f_2.map en) = true := by decide +kernel
theorem t5f_0 : chkL b101 R0 a5f bl5f 2336 102547 (l5f_0.map en) = true := by decide +kernel
theorem q5t_9 : chkR b107 R0 r5t_9 = true := by decide +kernel
theorem q4t_11 : chkR b107 R0 r4t_11 = true := by decide +kernel
theorem q4f_6 : chkR b107 R0 r4f_6 = true := by decide +kernel
theorem t9t_4 : chkL b101 R0 a9t bl9t 3959 104319 (l6f_4.map en) = true := by decide +kernel
theorem t6t_4 : chkL b101 R0 a6t bl6t 2981 103242 (l6f_4.map en) = true := by decide +kernel
end Tb
