import Derived.Test.YtkmpehlhplhnhaaGreatDoorS3
set_option autoImplicit false
set_option maxRecDepth 100000
set_option linter.unusedVariables false
namespace Tb
open Go Hb
noncomputable section
theorem s248 : SOk prg 248 (dp 18 x248 r248 [0,1]) := ds (by kernel_rfl) (by kernel_rfl)
end
end Tb
