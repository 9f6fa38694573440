import Derived.Test.YtbckhfmmoeegaaaGreatDoorN3
set_option autoImplicit false
set_option maxRecDepth 1000000
namespace Tb
open Go Hb
theorem u8_4s : okS 8 4 104419 104420 104421 104422 106186 106187 276 = true := by decide +kernel
theorem u8_4p : okP 8 4 104419 104420 104421 104422 106186 106187 276 (vP 1107 107294 6681 112956) 112958 = true := by decide +kernel
theorem u8_4l : okL 8 4 104419 (vP 1107 107294 6681 112956) 112958 = true := by decide +kernel
theorem c8_4 : OKc 8 4 := OKc.of u8_4s u8_4p u8_4l
theorem u8_1s : okS 8 1 102529 102530 102531 102532 103432 103433 141 = true := by decide +kernel
theorem u8_1p : okP 8 1 102529 102530 102531 102532 103432 103433 141 (vP 1107 104540 3366 106833) 106835 = true := by decide +kernel
theorem u8_1l : okL 8 1 102529 (vP 1107 104540 3366 106833) 106835 = true := by decide +kernel
theorem c8_1 : OKc 8 1 := OKc.of u8_1s u8_1p u8_1l
theorem c5_0 : OKc 5 0 := OKc.one (by decide +kernel)
theorem c0_5 : OKc 0 5 := OKc.one (by decide +kernel)
end Tb
