import Derived.Test.YtbckhfmmoeegaaaGreatDoorN3
set_option autoImplicit false
set_option maxRecDepth 1000000
namespace Tb
open Go Hb
theorem u3_7s : okS 3 7 103269 103270 103271 103272 104460 104461 186 = true := by decide +kernel
theorem u3_7p : okP 3 7 103269 103270 103271 103272 104460 104461 186 (vP 492 104943 4461 108974) 108976 = true := by decide +kernel
theorem u3_7l : okL 3 7 103269 (vP 492 104943 4461 108974) 108976 = true := by decide +kernel
theorem c3_7 : OKc 3 7 := OKc.of u3_7s u3_7p u3_7l
theorem u8_2s : okS 8 2 103159 103160 103161 103162 104350 104351 186 = true := by decide +kernel
theorem u8_2p : okP 8 2 103159 103160 103161 103162 104350 104351 186 (vP 1107 105458 4471 108874) 108876 = true := by decide +kernel
theorem u8_2l : okL 8 2 103159 (vP 1107 105458 4471 108874) 108876 = true := by decide +kernel
theorem c8_2 : OKc 8 2 := OKc.of u8_2s u8_2p u8_2l
theorem u1_8s : okS 1 8 102242 102243 102244 102245 102921 102922 106 = true := by decide +kernel
theorem u1_8p : okP 1 8 102242 102243 102244 102245 102921 102922 106 (vP 246 103154 2491 105433) 105435 = true := by decide +kernel
theorem u1_8l : okL 1 8 102242 (vP 246 103154 2491 105433) 105435 = true := by decide +kernel
theorem c1_8 : OKc 1 8 := OKc.of u1_8s u1_8p u1_8l
theorem c0_4 : OKc 0 4 := OKc.one (by decide +kernel)
end Tb
