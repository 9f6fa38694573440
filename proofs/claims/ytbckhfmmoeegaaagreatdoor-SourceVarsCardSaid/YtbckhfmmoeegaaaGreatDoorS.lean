import Derived.Test.YtbckhfmmoeegaaaGreatDoorK3
set_option autoImplicit false
set_option maxRecDepth 100000
set_option linter.unusedVariables false
namespace Tb
open Go Hb
theorem e278 : EOkX prg 278 xIndexByte := xIndexByte_ok (by exact ⟨Go.Proofs.Tryz.f278, by kernel_rfl, by kernel_rfl, by kernel_rfl, by kernel_rfl, by kernel_rfl⟩)
theorem e285 : EOkX prg 285 xCount := xCount_ok (by exact ⟨Go.Proofs.Tryz.f285, by kernel_rfl, by kernel_rfl, by kernel_rfl, by kernel_rfl, by kernel_rfl⟩)
theorem e103 : EOkX prg 103 xNoEscape := xNoEscape_ok (by exact ⟨Go.Proofs.Tryz.f103, by kernel_rfl, by kernel_rfl, by kernel_rfl, by kernel_rfl, by kernel_rfl⟩)
theorem e164 : EOkX prg 164 (xMakeNoZero 5) := xMakeNoZero_ok (ps := #[3]) (t := 38) (by exact ⟨Go.Proofs.Tryz.f164, by kernel_rfl, by kernel_rfl, by kernel_rfl, by kernel_rfl, by kernel_rfl⟩) (by kernel_rfl)
end Tb
