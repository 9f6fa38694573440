import Derived.Test.YtmcpmmololjjcaaGreatDoorM3
set_option autoImplicit false
set_option maxRecDepth 1000000
namespace Tb
open Go Hb
theorem e2_1 : okp 2 1 = true := by decide +kernel
theorem e3_2 : okp 3 2 = true := by decide +kernel
theorem e4_2 : okp 4 2 = true := by decide +kernel
theorem e5_1 : okp 5 1 = true := by decide +kernel
theorem e5_4 : okp 5 4 = true := by decide +kernel
theorem e6_2 : okp 6 2 = true := by decide +kernel
theorem e6_5 : okp 6 5 = true := by decide +kernel
theorem e7_2 : okp 7 2 = true := by decide +kernel
theorem e7_5 : okp 7 5 = true := by decide +kernel
theorem e8_1 : okp 8 1 = true := by decide +kernel
theorem e8_4 : okp 8 4 = true := by decide +kernel
theorem e8_7 : okp 8 7 = true := by decide +kernel
theorem e9_2 : okp 9 2 = true := by decide +kernel
theorem e9_5 : okp 9 5 = true := by decide +kernel
theorem e10_0 : okp 10 0 = true := by decide +kernel
theorem e10_3 : okp 10 3 = true := by decide +kernel
theorem e10_6 : okp 10 6 = true := by decide +kernel
theorem e11_1 : okp 11 1 = true := by decide +kernel
theorem e11_4 : okp 11 4 = true := by decide +kernel
theorem e11_7 : okp 11 7 = true := by decide +kernel
theorem e12_2 : okp 12 2 = true := by decide +kernel
theorem e12_5 : okp 12 5 = true := by decide +kernel
theorem e13_0 : okp 13 0 = true := by decide +kernel
theorem e13_3 : okp 13 3 = true := by decide +kernel
theorem e13_6 : okp 13 6 = true := by decide +kernel
end Tb
