import Derived.Test.YtceefpkgodkpmaaGreatDoorN5
set_option autoImplicit false
set_option maxRecDepth 1000000
namespace Tb
open Go Hb
theorem f8f : isBool true 1000000000 (b3 (R8f) [.i .u8 (.ofNat 8),.b false] ⟨.e,0,0⟩) = true := by decide +kernel
theorem t8t_1 : chkL b101 R0 a8t bl8t 3633 103960 (l6f_1.map en) = true := by decide +kernel
theorem t9t_2 : chkL b101 R0 a9t bl9t 3959 104319 (l6f_2.map en) = true := by decide +kernel
theorem t5t_0 : chkL b101 R0 a5t bl5t 2655 102883 (l5f_0.map en) = true := by decide +kernel
theorem q5f_11 : chkR b107 R0 r5f_11 = true := by decide +kernel
theorem q4t_7 : chkR b107 R0 r4t_7 = true := by decide +kernel
theorem q4t_6 : chkR b107 R0 r4t_6 = true := by decide +kernel
theorem q4t_0 : chkR b107 R0 r4t_0 = true := by decide +kernel
end Tb
