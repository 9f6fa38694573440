import Derived.Test.YtceefpkgodkpmaaGreatDoorN5
set_option autoImplicit false
set_option maxRecDepth 1000000
namespace Tb
open Go Hb
theorem f4f : isBool true 1000000000 (b3 (R4f) [.i .u8 (.ofNat 4),.b false] ⟨.e,0,0⟩) = true := by decide +kernel
theorem t4f_0 : chkL b101 R0 a4f bl4f 2010 102188 (l4f_0.map en) = true := by decide +kernel
theorem t8t_3 : chkL b101 R0 a8t bl8t 3633 103960 (l6f_3.map en) = true := by decide +kernel
theorem t9t_0 : chkL b101 R0 a9t bl9t 3959 104319 (l5f_0.map en) = true := by decide +kernel
theorem c0f : OKc 0 false := OKc.one (by decide +kernel)
theorem q5f_6 : chkR b107 R0 r5f_6 = true := by decide +kernel
theorem q5t_3 : chkR b107 R0 r5t_3 = true := by decide +kernel
theorem q4f_3 : chkR b107 R0 r4f_3 = true := by decide +kernel
end Tb
