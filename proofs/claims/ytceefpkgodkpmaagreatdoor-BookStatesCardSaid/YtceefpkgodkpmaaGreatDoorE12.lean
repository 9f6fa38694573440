import Derived.Test.YtceefpkgodkpmaaGreatDoorN5
set_option autoImplicit false
set_option maxRecDepth 1000000
namespace Tb
open Go Hb
theorem f6t : isBool true 1000000000 (b3 (R6t) [.i .u8 (.ofNat 6),.b true] ⟨.e,0,0⟩) = true := by decide +kernel
theorem t5t_1 : chkL b101 R0 a5t bl5t 2655 102883 (l5f_1.map en) = true := by decide +kernel
theorem t8f_3 : chkL b101 R0 a8f bl8f 3314 103624 (l6f_3.map en) = true := by decide +kernel
theorem t9f_0 : chkL b101 R0 a9f bl9f 3640 103983 (l5f_0.map en) = true := by decide +kernel
theorem q5t_14 : chkR b107 R0 r5t_14 = true := by decide +kernel
theorem q5f_7 : chkR b107 R0 r5f_7 = true := by decide +kernel
theorem q4t_4 : chkR b107 R0 r4t_4 = true := by decide +kernel
end Tb
