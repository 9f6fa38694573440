import Derived.Test.YtceefpkgodkpmaaGreatDoorN5
set_option autoImplicit false
set_option maxRecDepth 1000000
namespace Tb
open Go Hb
theorem f9f : isBool true 1000000000 (b3 (R9f) [.i .u8 (.ofNat 9),.b false] ⟨.e,0,0⟩) = true := by decide +kernel
theorem t7f_1 : chkL b101 R0 a7f bl7f 2988 103265 (l6f_1.map en) = true := by decide +kernel
theorem t8f_2 : chkL b101 R0 a8f bl8f 3314 103624 (l6f_2.map en) = true := by decide +kernel
theorem c0t : OKc 0 true := OKc.one (by decide +kernel)
theorem q5f_10 : chkR b107 R0 r5f_10 = true := by decide +kernel
theorem q4t_10 : chkR b107 R0 r4t_10 = true := by decide +kernel
theorem q4f_5 : chkR b107 R0 r4f_5 = true := by decide +kernel
theorem t9f_4 : chkL b101 R0 a9f bl9f 3640 103983 (l6f_4.map en) = true := by decide +kernel
theorem t6f_4 : chkL b101 R0 a6f bl6f 2662 102906 (l6f_4.map en) = true := by decide +kernel
end Tb
