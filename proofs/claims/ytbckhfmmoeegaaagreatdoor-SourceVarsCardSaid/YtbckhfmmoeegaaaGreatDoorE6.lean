import Derived.Test.YtbckhfmmoeegaaaGreatDoorN3
set_option autoImplicit false
set_option maxRecDepth 1000000
namespace Tb
open Go Hb
theorem u5_7s : okS 5 7 104485 104486 104487 104488 106252 106253 276 = true := by decide +kernel
theorem u5_7p : okP 5 7 104485 104486 104487 104488 106252 106253 276 (vP 738 106985 6675 113016) 113018 = true := by decide +kernel
theorem u5_7l : okL 5 7 104485 (vP 738 106985 6675 113016) 113018 = true := by decide +kernel
theorem c5_7 : OKc 5 7 := OKc.of u5_7s u5_7p u5_7l
theorem u4_3s : okS 4 3 102365 102366 102367 102368 103204 103205 131 = true := by decide +kernel
theorem u4_3p : okP 4 3 102365 102366 102367 102368 103204 103205 131 (vP 615 103812 3116 106351) 106353 = true := by decide +kernel
theorem u4_3l : okL 4 3 102365 (vP 615 103812 3116 106351) 106353 = true := by decide +kernel
theorem c4_3 : OKc 4 3 := OKc.of u4_3s u4_3p u4_3l
theorem c1_5 : OKc 1 5 := OKc.one (by decide +kernel)
theorem c1_1 : OKc 1 1 := OKc.one (by decide +kernel)
end Tb
