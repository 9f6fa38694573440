import Derived.Test.YtmjcgaaeejpkgaaGreatDoorP
set_option autoImplicit false
set_option maxRecDepth 100000
set_option linter.unusedVariables false
namespace Tb
open Go Hb
noncomputable section
theorem e248 : EOkX prg 248 xIndexByte := xIndexByte_ok (by exact ⟨Go.Proofs.Tryz.f248,by kernel_rfl,by kernel_rfl,by kernel_rfl,by kernel_rfl,by kernel_rfl⟩)
theorem e285 : EOkX prg 285 xCount := xCount_ok (by exact ⟨Go.Proofs.Tryz.f285,by kernel_rfl,by kernel_rfl,by kernel_rfl,by kernel_rfl,by kernel_rfl⟩)
theorem e273 : EOkX prg 273 xNoEscape := xNoEscape_ok (by exact ⟨Go.Proofs.Tryz.f273,by kernel_rfl,by kernel_rfl,by kernel_rfl,by kernel_rfl,by kernel_rfl⟩)
theorem e274 : EOkX prg 274 (xMakeNoZero 5) := xMakeNoZero_ok (ps := #[3]) (t := 22) (by exact ⟨Go.Proofs.Tryz.f274,by kernel_rfl,by kernel_rfl,by kernel_rfl,by kernel_rfl,by kernel_rfl⟩) (by kernel_rfl)
end
end Tb
