import Derived.Test.YtfglajmanbjogaaGreatDoorE0
import Derived.Test.YtfglajmanbjogaaGreatDoorE1
import Derived.Test.YtfglajmanbjogaaGreatDoorE2
import Derived.Test.YtfglajmanbjogaaGreatDoorE3
import Derived.Test.YtfglajmanbjogaaGreatDoorE4
import Derived.Test.YtfglajmanbjogaaGreatDoorE5
import Derived.Test.YtfglajmanbjogaaGreatDoorE6
import Derived.Test.YtfglajmanbjogaaGreatDoorE7
import Derived.Test.YtfglajmanbjogaaGreatDoorE8
import Derived.Test.YtfglajmanbjogaaGreatDoorE9
import Derived.Test.YtfglajmanbjogaaGreatDoorE10
import Derived.Test.YtfglajmanbjogaaGreatDoorE11
import Derived.Test.YtfglajmanbjogaaGreatDoorE12
import Derived.Test.YtfglajmanbjogaaGreatDoorE13
import Derived.Test.YtfglajmanbjogaaGreatDoorE14
import Derived.Test.YtfglajmanbjogaaGreatDoorE15
set_option autoImplicit false
set_option maxRecDepth 1000000
namespace Tb
open Go Hb
theorem all0 : Upto (fun a => ok3c a 0 = true) 36 := ⟨⟨⟨⟨⟨⟨⟨⟨⟨⟨⟨⟨⟨⟨⟨⟨⟨⟨⟨⟨⟨⟨⟨⟨⟨⟨⟨⟨⟨⟨⟨⟨⟨⟨⟨⟨trivial, e0_0⟩, e1_0⟩, e2_0⟩, e3_0⟩, e4_0⟩, e5_0⟩, e6_0⟩, e7_0⟩, e8_0⟩, e9_0⟩, e10_0⟩, e11_0⟩, e12_0⟩, e13_0⟩, e14_0⟩, e15_0⟩, e16_0⟩, e17_0⟩, e18_0⟩, e19_0⟩, e20_0⟩, e21_0⟩, e22_0⟩, e23_0⟩, e24_0⟩, e25_0⟩, e26_0⟩, e27_0⟩, e28_0⟩, e29_0⟩, e30_0⟩, e31_0⟩, e32_0⟩, e33_0⟩, e34_0⟩, e35_0⟩
theorem all1 : Upto (fun a => ok3c a 1 = true) 36 := ⟨⟨⟨⟨⟨⟨⟨⟨⟨⟨⟨⟨⟨⟨⟨⟨⟨⟨⟨⟨⟨⟨⟨⟨⟨⟨⟨⟨⟨⟨⟨⟨⟨⟨⟨⟨trivial, e0_1⟩, e1_1⟩, e2_1⟩, e3_1⟩, e4_1⟩, e5_1⟩, e6_1⟩, e7_1⟩, e8_1⟩, e9_1⟩, e10_1⟩, e11_1⟩, e12_1⟩, e13_1⟩, e14_1⟩, e15_1⟩, e16_1⟩, e17_1⟩, e18_1⟩, e19_1⟩, e20_1⟩, e21_1⟩, e22_1⟩, e23_1⟩, e24_1⟩, e25_1⟩, e26_1⟩, e27_1⟩, e28_1⟩, e29_1⟩, e30_1⟩, e31_1⟩, e32_1⟩, e33_1⟩, e34_1⟩, e35_1⟩
theorem all2 : Upto (fun a => ok3c a 2 = true) 36 := ⟨⟨⟨⟨⟨⟨⟨⟨⟨⟨⟨⟨⟨⟨⟨⟨⟨⟨⟨⟨⟨⟨⟨⟨⟨⟨⟨⟨⟨⟨⟨⟨⟨⟨⟨⟨trivial, e0_2⟩, e1_2⟩, e2_2⟩, e3_2⟩, e4_2⟩, e5_2⟩, e6_2⟩, e7_2⟩, e8_2⟩, e9_2⟩, e10_2⟩, e11_2⟩, e12_2⟩, e13_2⟩, e14_2⟩, e15_2⟩, e16_2⟩, e17_2⟩, e18_2⟩, e19_2⟩, e20_2⟩, e21_2⟩, e22_2⟩, e23_2⟩, e24_2⟩, e25_2⟩, e26_2⟩, e27_2⟩, e28_2⟩, e29_2⟩, e30_2⟩, e31_2⟩, e32_2⟩, e33_2⟩, e34_2⟩, e35_2⟩
theorem all3 : Upto (fun a => ok3c a 3 = true) 36 := ⟨⟨⟨⟨⟨⟨⟨⟨⟨⟨⟨⟨⟨⟨⟨⟨⟨⟨⟨⟨⟨⟨⟨⟨⟨⟨⟨⟨⟨⟨⟨⟨⟨⟨⟨⟨trivial, e0_3⟩, e1_3⟩, e2_3⟩, e3_3⟩, e4_3⟩, e5_3⟩, e6_3⟩, e7_3⟩, e8_3⟩, e9_3⟩, e10_3⟩, e11_3⟩, e12_3⟩, e13_3⟩, e14_3⟩, e15_3⟩, e16_3⟩, e17_3⟩, e18_3⟩, e19_3⟩, e20_3⟩, e21_3⟩, e22_3⟩, e23_3⟩, e24_3⟩, e25_3⟩, e26_3⟩, e27_3⟩, e28_3⟩, e29_3⟩, e30_3⟩, e31_3⟩, e32_3⟩, e33_3⟩, e34_3⟩, e35_3⟩
theorem all4 : Upto (fun a => ok3c a 4 = true) 36 := ⟨⟨⟨⟨⟨⟨⟨⟨⟨⟨⟨⟨⟨⟨⟨⟨⟨⟨⟨⟨⟨⟨⟨⟨⟨⟨⟨⟨⟨⟨⟨⟨⟨⟨⟨⟨trivial, e0_4⟩, e1_4⟩, e2_4⟩, e3_4⟩, e4_4⟩, e5_4⟩, e6_4⟩, e7_4⟩, e8_4⟩, e9_4⟩, e10_4⟩, e11_4⟩, e12_4⟩, e13_4⟩, e14_4⟩, e15_4⟩, e16_4⟩, e17_4⟩, e18_4⟩, e19_4⟩, e20_4⟩, e21_4⟩, e22_4⟩, e23_4⟩, e24_4⟩, e25_4⟩, e26_4⟩, e27_4⟩, e28_4⟩, e29_4⟩, e30_4⟩, e31_4⟩, e32_4⟩, e33_4⟩, e34_4⟩, e35_4⟩
theorem all : Upto (fun b => Upto (fun a => ok3c a b = true) 36) 5 := ⟨⟨⟨⟨⟨trivial, all0⟩, all1⟩, all2⟩, all3⟩, all4⟩
end Tb
