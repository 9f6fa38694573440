import Derived.Test.YtmcpmmololjjcaaGreatDoorH11
import Derived.Test.YtmcpmmololjjcaaGreatDoorAll
set_option autoImplicit false
set_option maxRecDepth 1000000
namespace Tb
open Go Hb
theorem knownE : isBool true 100000 ((run tab ttab 1000).h 4 [] ⟨.e, 0, 0⟩) = true := by decide +kernel
noncomputable def knownX : Fun := knownF true 100000
theorem knownX_ok : SOk prg 4 knownX := knownF_ok (run_ok tab_ok ttab_ok 1000) knownE
end Tb
