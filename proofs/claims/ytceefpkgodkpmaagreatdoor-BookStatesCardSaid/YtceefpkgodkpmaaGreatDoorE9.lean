import Derived.Test.YtceefpkgodkpmaaGreatDoorN5
set_option autoImplicit false
set_option maxRecDepth 1000000
namespace Tb
open Go Hb
theorem f7t : isBool true 1000000000 (b3 (R7t) [.i .u8 (.ofNat 7),.b true] ⟨.e,0,0⟩) = true := by decide +kernel
theorem t9f_1 : chkL b101 R0 a9f bl9f 3640 103983 (l6f_1.map en) = true := by decide +kernel
theorem t5f_2 : chkL b101 R0 a5f bl5f 2336 102547 (l5f_2.map en) = true := by decide +kernel
theorem t6f_0 : chkL b101 R0 a6f bl6f 2662 102906 (l5f_0.map en) = true := by decide +kernel
theorem q5f_13 : chkR b107 R0 r5f_13 = true := by decide +kernel
theorem q4t_9 : chkR b107 R0 r4t_9 = true := by decide +kernel
theorem q4f_11 : chkR b107 R0 r4f_11 = true := by decide +kernel
theorem q4t_3 : chkR b107 R0 r4t_3 = true := by decide +kernel
end Tb
