import Derived.Test.YtmcpmmololjjcaaGreatDoorM3
set_option autoImplicit false
set_option maxRecDepth 1000000
namespace Tb
open Go Hb
theorem e0 (d : Nat) : okp 0 d = true := by kernel_rfl
theorem e1_0 : okp 1 0 = true := by decide +kernel
theorem e3_0 : okp 3 0 = true := by decide +kernel
theorem e4_0 : okp 4 0 = true := by decide +kernel
theorem e4_3 : okp 4 3 = true := by decide +kernel
theorem e5_2 : okp 5 2 = true := by decide +kernel
theorem e6_0 : okp 6 0 = true := by decide +kernel
theorem e6_3 : okp 6 3 = true := by decide +kernel
theorem e7_0 : okp 7 0 = true := by decide +kernel
theorem e7_3 : okp 7 3 = true := by decide +kernel
theorem e7_6 : okp 7 6 = true := by decide +kernel
theorem e8_2 : okp 8 2 = true := by decide +kernel
theorem e8_5 : okp 8 5 = true := by decide +kernel
theorem e9_0 : okp 9 0 = true := by decide +kernel
theorem e9_3 : okp 9 3 = true := by decide +kernel
theorem e9_6 : okp 9 6 = true := by decide +kernel
theorem e10_1 : okp 10 1 = true := by decide +kernel
theorem e10_4 : okp 10 4 = true := by decide +kernel
theorem e10_7 : okp 10 7 = true := by decide +kernel
theorem e11_2 : okp 11 2 = true := by decide +kernel
theorem e11_5 : okp 11 5 = true := by decide +kernel
theorem e12_0 : okp 12 0 = true := by decide +kernel
theorem e12_3 : okp 12 3 = true := by decide +kernel
theorem e12_6 : okp 12 6 = true := by decide +kernel
theorem e13_1 : okp 13 1 = true := by decide +kernel
theorem e13_4 : okp 13 4 = true := by decide +kernel
theorem e13_7 : okp 13 7 = true := by decide +kernel
end Tb
