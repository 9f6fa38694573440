import Derived.Test.YtmcpmmololjjcaaGreatDoorP
set_option autoImplicit false
set_option maxRecDepth 100000
set_option linter.unusedVariables false
namespace Tb
open Go Hb
noncomputable section
theorem e396 : EOkX prg 396 xIndexByte := xIndexByte_ok (by exact ⟨Go.Proofs.Tryz.f396,by kernel_rfl,by kernel_rfl,by kernel_rfl,by kernel_rfl,by kernel_rfl⟩)
theorem e282 : EOkX prg 282 xCount := xCount_ok (by exact ⟨Go.Proofs.Tryz.f282,by kernel_rfl,by kernel_rfl,by kernel_rfl,by kernel_rfl,by kernel_rfl⟩)
theorem e96 : EOkX prg 96 xMapsClone := xMapsClone_ok (by exact ⟨Go.Proofs.Tryz.f96,by kernel_rfl,by kernel_rfl,by kernel_rfl,by kernel_rfl,by kernel_rfl⟩)
theorem e214 : EOkX prg 214 xNoEscape := xNoEscape_ok (by exact ⟨Go.Proofs.Tryz.f214,by kernel_rfl,by kernel_rfl,by kernel_rfl,by kernel_rfl,by kernel_rfl⟩)
theorem e215 : EOkX prg 215 (xMakeNoZero 5) := xMakeNoZero_ok (ps := #[3]) (t := 42) (by exact ⟨Go.Proofs.Tryz.f215,by kernel_rfl,by kernel_rfl,by kernel_rfl,by kernel_rfl,by kernel_rfl⟩) (by kernel_rfl)
end
end Tb
