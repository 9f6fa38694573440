import Derived.Test.YtbckhfmmoeegaaaGreatDoorE0
import Derived.Test.YtbckhfmmoeegaaaGreatDoorE1
import Derived.Test.YtbckhfmmoeegaaaGreatDoorE2
import Derived.Test.YtbckhfmmoeegaaaGreatDoorE3
import Derived.Test.YtbckhfmmoeegaaaGreatDoorE4
import Derived.Test.YtbckhfmmoeegaaaGreatDoorE5
import Derived.Test.YtbckhfmmoeegaaaGreatDoorE6
import Derived.Test.YtbckhfmmoeegaaaGreatDoorE7
import Derived.Test.YtbckhfmmoeegaaaGreatDoorE8
import Derived.Test.YtbckhfmmoeegaaaGreatDoorE9
import Derived.Test.YtbckhfmmoeegaaaGreatDoorE10
import Derived.Test.YtbckhfmmoeegaaaGreatDoorE11
import Derived.Test.YtbckhfmmoeegaaaGreatDoorE12
import Derived.Test.YtbckhfmmoeegaaaGreatDoorE13
import Derived.Test.YtbckhfmmoeegaaaGreatDoorE14
import Derived.Test.YtbckhfmmoeegaaaGreatDoorE15
import Derived.Test.YtbckhfmmoeegaaaGreatDoorE16
import Derived.Test.YtbckhfmmoeegaaaGreatDoorE17
import Derived.Test.YtbckhfmmoeegaaaGreatDoorE18
import Derived.Test.YtbckhfmmoeegaaaGreatDoorE19
set_option autoImplicit false
set_option maxRecDepth 1000000
namespace Tb
open Go Hb
theorem all_0 : Upto (fun a => OKc a 0) 9 := ⟨⟨⟨⟨⟨⟨⟨⟨⟨trivial, c0_0⟩, c1_0⟩, c2_0⟩, c3_0⟩, c4_0⟩, c5_0⟩, c6_0⟩, c7_0⟩, c8_0⟩
theorem all_1 : Upto (fun a => OKc a 1) 9 := ⟨⟨⟨⟨⟨⟨⟨⟨⟨trivial, c0_1⟩, c1_1⟩, c2_1⟩, c3_1⟩, c4_1⟩, c5_1⟩, c6_1⟩, c7_1⟩, c8_1⟩
theorem all_2 : Upto (fun a => OKc a 2) 9 := ⟨⟨⟨⟨⟨⟨⟨⟨⟨trivial, c0_2⟩, c1_2⟩, c2_2⟩, c3_2⟩, c4_2⟩, c5_2⟩, c6_2⟩, c7_2⟩, c8_2⟩
theorem all_3 : Upto (fun a => OKc a 3) 9 := ⟨⟨⟨⟨⟨⟨⟨⟨⟨trivial, c0_3⟩, c1_3⟩, c2_3⟩, c3_3⟩, c4_3⟩, c5_3⟩, c6_3⟩, c7_3⟩, c8_3⟩
theorem all_4 : Upto (fun a => OKc a 4) 9 := ⟨⟨⟨⟨⟨⟨⟨⟨⟨trivial, c0_4⟩, c1_4⟩, c2_4⟩, c3_4⟩, c4_4⟩, c5_4⟩, c6_4⟩, c7_4⟩, c8_4⟩
theorem all_5 : Upto (fun a => OKc a 5) 9 := ⟨⟨⟨⟨⟨⟨⟨⟨⟨trivial, c0_5⟩, c1_5⟩, c2_5⟩, c3_5⟩, c4_5⟩, c5_5⟩, c6_5⟩, c7_5⟩, c8_5⟩
theorem all_6 : Upto (fun a => OKc a 6) 9 := ⟨⟨⟨⟨⟨⟨⟨⟨⟨trivial, c0_6⟩, c1_6⟩, c2_6⟩, c3_6⟩, c4_6⟩, c5_6⟩, c6_6⟩, c7_6⟩, c8_6⟩
theorem all_7 : Upto (fun a => OKc a 7) 9 := ⟨⟨⟨⟨⟨⟨⟨⟨⟨trivial, c0_7⟩, c1_7⟩, c2_7⟩, c3_7⟩, c4_7⟩, c5_7⟩, c6_7⟩, c7_7⟩, c8_7⟩
theorem all_8 : Upto (fun a => OKc a 8) 9 := ⟨⟨⟨⟨⟨⟨⟨⟨⟨trivial, c0_8⟩, c1_8⟩, c2_8⟩, c3_8⟩, c4_8⟩, c5_8⟩, c6_8⟩, c7_8⟩, c8_8⟩
theorem all : Upto (fun b => Upto (fun a => OKc a b) 9) 9 := ⟨⟨⟨⟨⟨⟨⟨⟨⟨trivial, all_0⟩, all_1⟩, all_2⟩, all_3⟩, all_4⟩, all_5⟩, all_6⟩, all_7⟩, all_8⟩
end Tb
