import Derived.Test.YtceefpkgodkpmaaGreatDoorK4
set_option autoImplicit false
set_option maxRecDepth 100000
set_option linter.unusedVariables false
namespace Tb
open Go Hb
theorem e320 : EOkX prg 320 xIndexByte := xIndexByte_ok (by exact ⟨Go.Proofs.Tryz.f320,by kernel_rfl,by kernel_rfl,by kernel_rfl,by kernel_rfl,by kernel_rfl⟩)
theorem e368 : EOkX prg 368 xCount := xCount_ok (by exact ⟨Go.Proofs.Tryz.f368,by kernel_rfl,by kernel_rfl,by kernel_rfl,by kernel_rfl,by kernel_rfl⟩)
theorem e353 : EOkX prg 353 xNoEscape := xNoEscape_ok (by exact ⟨Go.Proofs.Tryz.f353,by kernel_rfl,by kernel_rfl,by kernel_rfl,by kernel_rfl,by kernel_rfl⟩)
theorem e354 : EOkX prg 354 (xMakeNoZero 5) := xMakeNoZero_ok (ps := #[3]) (t := 325) (by exact ⟨Go.Proofs.Tryz.f354,by kernel_rfl,by kernel_rfl,by kernel_rfl,by kernel_rfl,by kernel_rfl⟩) (by kernel_rfl)
end Tb
