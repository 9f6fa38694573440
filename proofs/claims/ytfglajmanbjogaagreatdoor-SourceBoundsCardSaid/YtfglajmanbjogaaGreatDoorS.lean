import Derived.Test.YtfglajmanbjogaaGreatDoorK0
import Derived.Test.YtfglajmanbjogaaGreatDoorK1
import Derived.Test.YtfglajmanbjogaaGreatDoorK2
set_option autoImplicit false
set_option maxRecDepth 100000
set_option linter.unusedVariables false
namespace Tb
open Go Hb
theorem e250 : EOkX prg 250 xIndexByte := xIndexByte_ok (by exact ⟨Go.Proofs.Tryz.f250, by kernel_rfl, by kernel_rfl, by kernel_rfl, by kernel_rfl, by kernel_rfl⟩)
theorem e270 : EOkX prg 270 xCount := xCount_ok (by exact ⟨Go.Proofs.Tryz.f270, by kernel_rfl, by kernel_rfl, by kernel_rfl, by kernel_rfl, by kernel_rfl⟩)
end Tb
