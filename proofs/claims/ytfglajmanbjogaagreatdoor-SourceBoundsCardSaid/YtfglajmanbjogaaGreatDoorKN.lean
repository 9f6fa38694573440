import Derived.Test.YtfglajmanbjogaaGreatDoorH6
import Derived.Test.YtfglajmanbjogaaGreatDoorAll
set_option autoImplicit false
set_option maxRecDepth 1000000
namespace Tb
open Go Hb
theorem known8 : isBool true 100000 ((run tab ttab 1000).h 8 [] ⟨.e, 0, 0⟩) = true := by decide +kernel
noncomputable def known10 : Fun := knownF true 100000
theorem known10_ok : SOk prg 8 known10 := knownF_ok (run_ok tab_ok ttab_ok 1000) known8
end Tb
