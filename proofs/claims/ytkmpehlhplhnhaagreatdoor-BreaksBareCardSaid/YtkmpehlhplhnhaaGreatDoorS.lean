import Derived.Test.YtkmpehlhplhnhaaGreatDoorP
set_option autoImplicit false
set_option maxRecDepth 100000
set_option linter.unusedVariables false
namespace Tb
open Go Hb
noncomputable section
theorem e249 : EOkX prg 249 xIndexByte := xIndexByte_ok (by exact ⟨Go.Proofs.Tryz.f249,by kernel_rfl,by kernel_rfl,by kernel_rfl,by kernel_rfl,by kernel_rfl⟩)
theorem e286 : EOkX prg 286 xCount := xCount_ok (by exact ⟨Go.Proofs.Tryz.f286,by kernel_rfl,by kernel_rfl,by kernel_rfl,by kernel_rfl,by kernel_rfl⟩)
theorem e274 : EOkX prg 274 xNoEscape := xNoEscape_ok (by exact ⟨Go.Proofs.Tryz.f274,by kernel_rfl,by kernel_rfl,by kernel_rfl,by kernel_rfl,by kernel_rfl⟩)
theorem e275 : EOkX prg 275 (xMakeNoZero 5) := xMakeNoZero_ok (ps := #[3]) (t := 22) (by exact ⟨Go.Proofs.Tryz.f275,by kernel_rfl,by kernel_rfl,by kernel_rfl,by kernel_rfl,by kernel_rfl⟩) (by kernel_rfl)
end
end Tb
