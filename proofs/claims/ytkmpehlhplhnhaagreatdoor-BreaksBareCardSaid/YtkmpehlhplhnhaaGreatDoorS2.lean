import Derived.Test.YtkmpehlhplhnhaaGreatDoorS1
set_option autoImplicit false
set_option maxRecDepth 100000
set_option linter.unusedVariables false
namespace Tb
open Go Hb
noncomputable section
theorem s85 : SOk prg 85 (dp 39 x85 r85 [0,1]) := ds (by kernel_rfl) (by kernel_rfl)
theorem s77 : SOk prg 77 (dp 21 x77 r77 [0,1]) := ds (by kernel_rfl) (by kernel_rfl)
theorem s137 : SOk prg 137 (dp 77 x137 r137 [0]) := ds (by kernel_rfl) (by kernel_rfl)
theorem s83 : SOk prg 83 (dp 18 x83 r83 [0]) := ds (by kernel_rfl) (by kernel_rfl)
theorem s270 : SOk prg 270 (dp 31 x270 r270 [0]) := ds (by kernel_rfl) (by kernel_rfl)
theorem s252 : SOk prg 252 (dp 24 x252 r252 [0,1]) := ds (by kernel_rfl) (by kernel_rfl)
theorem s219 : SOk prg 219 (dp 18 x219 r219 [0,1]) := ds (by kernel_rfl) (by kernel_rfl)
theorem s268 : SOk prg 268 (dp 91 x268 r268 [0]) := ds (by kernel_rfl) (by kernel_rfl)
theorem s269 : SOk prg 269 (dp 12 x269 r269 [0]) := ds (by kernel_rfl) (by kernel_rfl)
theorem s250 : SOk prg 250 (dp 20 x250 r250 [0]) := ds (by kernel_rfl) (by kernel_rfl)
theorem s251 : SOk prg 251 (dp 22 x251 r251 [0]) := ds (by kernel_rfl) (by kernel_rfl)
theorem s218 : SOk prg 218 (dp 20 x218 r218 [0]) := ds (by kernel_rfl) (by kernel_rfl)
theorem s170 : SOk prg 170 (dp 13 x170 r170 [0]) := ds (by kernel_rfl) (by kernel_rfl)
theorem s134 : SOk prg 134 (dp 34 x134 r134 [0,1]) := ds (by kernel_rfl) (by kernel_rfl)
theorem s78 : SOk prg 78 (dp 34 x78 r78 [0]) := ds (by kernel_rfl) (by kernel_rfl)
theorem s84 : SOk prg 84 (dp 29 x84 r84 [0,1]) := ds (by kernel_rfl) (by kernel_rfl)
theorem s45 : SOk prg 45 (dp 36 x45 r45 [0,1,2]) := ds (by kernel_rfl) (by kernel_rfl)
theorem s46 : SOk prg 46 (dp 44 x46 r46 [0,1]) := ds (by kernel_rfl) (by kernel_rfl)
theorem s22 : SOk prg 22 (dp 73 x22 r22 [0,1,2]) := ds (by kernel_rfl) (by kernel_rfl)
theorem s116 : SOk prg 116 (dp 19 x116 r116 [0,1]) := ds (by kernel_rfl) (by kernel_rfl)
theorem s68 : SOk prg 68 (dp 9 x68 r68 [0,1]) := ds (by kernel_rfl) (by kernel_rfl)
theorem s36 : SOk prg 36 (dp 11 x36 r36 [0]) := ds (by kernel_rfl) (by kernel_rfl)
theorem s35 : SOk prg 35 (dp 11 x35 r35 [0]) := ds (by kernel_rfl) (by kernel_rfl)
theorem s121 : SOk prg 121 (dp 19 x121 r121 [0,1]) := ds (by kernel_rfl) (by kernel_rfl)
theorem s70 : SOk prg 70 (dp 9 x70 r70 [0,1]) := ds (by kernel_rfl) (by kernel_rfl)
theorem s41 : SOk prg 41 (dp 19 x41 r41 [0,1,2]) := ds (by kernel_rfl) (by kernel_rfl)
theorem s40 : SOk prg 40 (dp 46 x40 r40 [0,1,2]) := ds (by kernel_rfl) (by kernel_rfl)
theorem s43 : SOk prg 43 (dp 29 x43 r43 [0,1]) := ds (by kernel_rfl) (by kernel_rfl)
theorem s59 : SOk prg 59 (dp 4 x59 r59 [0]) := ds (by kernel_rfl) (by kernel_rfl)
theorem s57 : SOk prg 57 (dp 22 x57 r57 [0,1]) := ds (by kernel_rfl) (by kernel_rfl)
theorem s62 : SOk prg 62 (dp 4 x62 r62 [0]) := ds (by kernel_rfl) (by kernel_rfl)
theorem s60 : SOk prg 60 (dp 22 x60 r60 [0,1]) := ds (by kernel_rfl) (by kernel_rfl)
theorem s114 : SOk prg 114 (dp 122 x114 r114 [0]) := ds (by kernel_rfl) (by kernel_rfl)
theorem s64 : SOk prg 64 (dp 22 x64 r64 [0]) := ds (by kernel_rfl) (by kernel_rfl)
theorem s63 : SOk prg 63 (dp 32 x63 r63 [0,1]) := ds (by kernel_rfl) (by kernel_rfl)
theorem s72 : SOk prg 72 (dp 26 x72 r72 [0,1]) := ds (by kernel_rfl) (by kernel_rfl)
theorem s71 : SOk prg 71 (dp 28 x71 r71 [0,1,2]) := ds (by kernel_rfl) (by kernel_rfl)
theorem s122 : SOk prg 122 (dp 20 x122 r122 [0,1]) := ds (by kernel_rfl) (by kernel_rfl)
theorem s74 : SOk prg 74 (dp 23 x74 r74 [0]) := ds (by kernel_rfl) (by kernel_rfl)
theorem s126 : SOk prg 126 (dp 9 x126 r126 [0]) := ds (by kernel_rfl) (by kernel_rfl)
end
end Tb
