import Derived.Test.YtbckhfmmoeegaaaGreatDoorN3
set_option autoImplicit false
set_option maxRecDepth 1000000
namespace Tb
open Go Hb
theorem u7_3s : okS 7 3 103433 103434 103435 103436 104752 104753 206 = true := by decide +kernel
theorem u7_3p : okP 7 3 103433 103434 103435 103436 104752 104753 206 (vP 984 105735 4961 109774) 109776 = true := by decide +kernel
theorem u7_3l : okL 7 3 103433 (vP 984 105735 4961 109774) 109776 = true := by decide +kernel
theorem c7_3 : OKc 7 3 := OKc.of u7_3s u7_3p u7_3l
theorem u5_4s : okS 5 4 103162 103163 103164 103165 104353 104354 186 = true := by decide +kernel
theorem u5_4p : okP 5 4 103162 103163 103164 103165 104353 104354 186 (vP 738 105086 4467 108873) 108875 = true := by decide +kernel
theorem u5_4l : okL 5 4 103162 (vP 738 105086 4467 108873) 108875 = true := by decide +kernel
theorem c5_4 : OKc 5 4 := OKc.of u5_4s u5_4p u5_4l
theorem u1_6s : okS 1 6 101864 101865 101866 101867 102415 102416 86 = true := by decide +kernel
theorem u1_6p : okP 1 6 101864 101865 101866 101867 102415 102416 86 (vP 246 102648 2003 104431) 104433 = true := by decide +kernel
theorem u1_6l : okL 1 6 101864 (vP 246 102648 2003 104431) 104433 = true := by decide +kernel
theorem c1_6 : OKc 1 6 := OKc.of u1_6s u1_6p u1_6l
theorem c2_1 : OKc 2 1 := OKc.one (by decide +kernel)
end Tb
