import Derived.Test.YtmcpmmololjjcaaGreatDoorL3
import Derived.Test.YtmcpmmololjjcaaGreatDoorN3
import Derived.KernelRfl
set_option autoImplicit false
set_option maxRecDepth 1000000
namespace Tb
open Go Hb
noncomputable def okp (n d : Nat) : Bool := isBool true 1000000000 (b3 RS [.i .u8 (.ofNat n), .i .u8 (.ofNat d)] ⟨.e, 0, 0⟩)
end Tb
