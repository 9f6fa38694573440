import Derived.Test.YtceefpkgodkpmaaGreatDoorN5
set_option autoImplicit false
set_option maxRecDepth 1000000
namespace Tb
open Go Hb
theorem f5f : isBool true 1000000000 (b3 (R5f) [.i .u8 (.ofNat 5),.b false] ⟨.e,0,0⟩) = true := by decide +kernel
theorem t6f_1 : chkL b101 R0 a6f bl6f 2662 102906 (l6f_1.map en) = true := by decide +kernel
theorem t7f_2 : chkL b101 R0 a7f bl7f 2988 103265 (l6f_2.map en) = true := by decide +kernel
theorem t5f_3 : chkL b101 R0 a5f bl5f 2336 102547 (l5f_3.map en) = true := by decide +kernel
theorem q5t_7 : chkR b107 R0 r5t_7 = true := by decide +kernel
theorem q4t_5 : chkR b107 R0 r4t_5 = true := by decide +kernel
theorem q4f_0 : chkR b107 R0 r4f_0 = true := by decide +kernel
end Tb
