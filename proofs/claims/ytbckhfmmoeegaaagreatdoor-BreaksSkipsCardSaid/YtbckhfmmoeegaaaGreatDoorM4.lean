import Derived.Test.YtbckhfmmoeegaaaGreatDoorE0
import Derived.Test.YtbckhfmmoeegaaaGreatDoorE1
import Derived.Test.YtbckhfmmoeegaaaGreatDoorE2
import Derived.Test.YtbckhfmmoeegaaaGreatDoorE3
import Derived.Test.YtbckhfmmoeegaaaGreatDoorE4
import Derived.Test.YtbckhfmmoeegaaaGreatDoorE5
import Derived.Test.YtbckhfmmoeegaaaGreatDoorE6
import Derived.Test.YtbckhfmmoeegaaaGreatDoorE7
set_option autoImplicit false
set_option maxRecDepth 1000000
namespace Tb
open Go Hb
theorem all_0_0 : Upto (fun a => okc a 0 false = true) 5 := ⟨⟨⟨⟨⟨trivial, e0_0_0⟩, e1_0_0⟩, e2_0_0⟩, e3_0_0⟩, e4_0_0⟩
theorem all_1_0 : Upto (fun a => okc a 1 false = true) 5 := ⟨⟨⟨⟨⟨trivial, e0_1_0⟩, e1_1_0⟩, e2_1_0⟩, e3_1_0⟩, e4_1_0⟩
theorem all_2_0 : Upto (fun a => okc a 2 false = true) 5 := ⟨⟨⟨⟨⟨trivial, e0_2_0⟩, e1_2_0⟩, e2_2_0⟩, e3_2_0⟩, e4_2_0⟩
theorem all_3_0 : Upto (fun a => okc a 3 false = true) 5 := ⟨⟨⟨⟨⟨trivial, e0_3_0⟩, e1_3_0⟩, e2_3_0⟩, e3_3_0⟩, e4_3_0⟩
theorem all_0 : Upto (fun b => Upto (fun a => okc a b false = true) 5) 4 := ⟨⟨⟨⟨trivial, all_0_0⟩, all_1_0⟩, all_2_0⟩, all_3_0⟩
theorem all_0_1 : Upto (fun a => okc a 0 true = true) 5 := ⟨⟨⟨⟨⟨trivial, e0_0_1⟩, e1_0_1⟩, e2_0_1⟩, e3_0_1⟩, e4_0_1⟩
theorem all_1_1 : Upto (fun a => okc a 1 true = true) 5 := ⟨⟨⟨⟨⟨trivial, e0_1_1⟩, e1_1_1⟩, e2_1_1⟩, e3_1_1⟩, e4_1_1⟩
theorem all_2_1 : Upto (fun a => okc a 2 true = true) 5 := ⟨⟨⟨⟨⟨trivial, e0_2_1⟩, e1_2_1⟩, e2_2_1⟩, e3_2_1⟩, e4_2_1⟩
theorem all_3_1 : Upto (fun a => okc a 3 true = true) 5 := ⟨⟨⟨⟨⟨trivial, e0_3_1⟩, e1_3_1⟩, e2_3_1⟩, e3_3_1⟩, e4_3_1⟩
theorem all_1 : Upto (fun b => Upto (fun a => okc a b true = true) 5) 4 := ⟨⟨⟨⟨trivial, all_0_1⟩, all_1_1⟩, all_2_1⟩, all_3_1⟩
theorem all : Both (fun c => Upto (fun b => Upto (fun a => okc a b c = true) 5) 4) := ⟨all_0, all_1⟩
end Tb
