import Derived.Test.YtmcpmmololjjcaaGreatDoorM3
set_option autoImplicit false
set_option maxRecDepth 1000000
namespace Tb
open Go Hb
theorem e2_0 : okp 2 0 = true := by decide +kernel
theorem e3_1 : okp 3 1 = true := by decide +kernel
theorem e4_1 : okp 4 1 = true := by decide +kernel
theorem e5_0 : okp 5 0 = true := by decide +kernel
theorem e5_3 : okp 5 3 = true := by decide +kernel
theorem e6_1 : okp 6 1 = true := by decide +kernel
theorem e6_4 : okp 6 4 = true := by decide +kernel
theorem e7_1 : okp 7 1 = true := by decide +kernel
theorem e7_4 : okp 7 4 = true := by decide +kernel
theorem e8_0 : okp 8 0 = true := by decide +kernel
theorem e8_3 : okp 8 3 = true := by decide +kernel
theorem e8_6 : okp 8 6 = true := by decide +kernel
theorem e9_1 : okp 9 1 = true := by decide +kernel
theorem e9_4 : okp 9 4 = true := by decide +kernel
theorem e9_7 : okp 9 7 = true := by decide +kernel
theorem e10_2 : okp 10 2 = true := by decide +kernel
theorem e10_5 : okp 10 5 = true := by decide +kernel
theorem e11_0 : okp 11 0 = true := by decide +kernel
theorem e11_3 : okp 11 3 = true := by decide +kernel
theorem e11_6 : okp 11 6 = true := by decide +kernel
theorem e12_1 : okp 12 1 = true := by decide +kernel
theorem e12_4 : okp 12 4 = true := by decide +kernel
theorem e12_7 : okp 12 7 = true := by decide +kernel
theorem e13_2 : okp 13 2 = true := by decide +kernel
theorem e13_5 : okp 13 5 = true := by decide +kernel
end Tb
