import Derived.Test.YtceefpkgodkpmaaGreatDoorN5
set_option autoImplicit false
set_option maxRecDepth 1000000
namespace Tb
open Go Hb
theorem f5t : isBool true 1000000000 (b3 (R5t) [.i .u8 (.ofNat 5),.b true] ⟨.e,0,0⟩) = true := by decide +kernel
theorem t7t_3 : chkL b101 R0 a7t bl7t 3307 103601 (l6f_3.map en) = true := by decide +kernel
theorem t8t_0 : chkL b101 R0 a8t bl8t 3633 103960 (l5f_0.map en) = true := by decide +kernel
theorem q5t_13 : chkR b107 R0 r5t_13 = true := by decide +kernel
theorem q5t_6 : chkR b107 R0 r5t_6 = true := by decide +kernel
theorem q4f_7 : chkR b107 R0 r4f_7 = true := by decide +kernel
theorem q4f_4 : chkR b107 R0 r4f_4 = true := by decide +kernel
end Tb
