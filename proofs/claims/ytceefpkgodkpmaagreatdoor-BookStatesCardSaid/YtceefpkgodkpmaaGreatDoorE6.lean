import Derived.Test.YtceefpkgodkpmaaGreatDoorN5
set_option autoImplicit false
set_option maxRecDepth 1000000
namespace Tb
open Go Hb
theorem f8t : isBool true 1000000000 (b3 (R8t) [.i .u8 (.ofNat 8),.b true] ⟨.e,0,0⟩) = true := by decide +kernel
theorem t7t_1 : chkL b101 R0 a7t bl7t 3307 103601 (l6f_1.map en) = true := by decide +kernel
theorem t8t_2 : chkL b101 R0 a8t bl8t 3633 103960 (l6f_2.map en) = true := by decide +kernel
theorem c1f : OKc 1 false := OKc.one (by decide +kernel)
theorem q5t_8 : chkR b107 R0 r5t_8 = true := by decide +kernel
theorem q4f_9 : chkR b107 R0 r4f_9 = true := by decide +kernel
theorem q5t_1 : chkR b107 R0 r5t_1 = true := by decide +kernel
theorem t8t_4 : chkL b101 R0 a8t bl8t 3633 103960 (l6f_4.map en) = true := by decide +kernel
end Tb
