import Derived.Test.YtceefpkgodkpmaaGreatDoorN5
set_option autoImplicit false
set_option maxRecDepth 1000000
namespace Tb
open Go Hb
theorem f6f : isBool true 1000000000 (b3 (R6f) [.i .u8 (.ofNat 6),.b false] ⟨.e,0,0⟩) = true := by decide +kernel
theorem t4t_0 : chkL b101 R0 a4t bl4t 2329 102524 (l4f_0.map en) = true := by decide +kernel
theorem t9f_3 : chkL b101 R0 a9f bl9f 3640 103983 (l6f_3.map en) = true := by decide +kernel
theorem t6f_2 : chkL b101 R0 a6f bl6f 2662 102906 (l6f_2.map en) = true := by decide +kernel
theorem t4f_1 : chkL b101 R0 a4f bl4f 2010 102188 (l4f_1.map en) = true := by decide +kernel
theorem q5f_8 : chkR b107 R0 r5f_8 = true := by decide +kernel
theorem q5t_0 : chkR b107 R0 r5t_0 = true := by decide +kernel
theorem t7t_4 : chkL b101 R0 a7t bl7t 3307 103601 (l6f_4.map en) = true := by decide +kernel
end Tb
