import Derived.Test.YtmjcgaaeejpkgaaGreatDoorS2
set_option autoImplicit false
set_option maxRecDepth 100000
set_option linter.unusedVariables false
namespace Tb
open Go Hb
noncomputable section
theorem s115 : SOk prg 115 (dp 19 x115 r115 [0,1]) := ds (by kernel_rfl) (by kernel_rfl)
theorem s66 : SOk prg 66 (dp 9 x66 r66 [0,1]) := ds (by kernel_rfl) (by kernel_rfl)
theorem s37 : SOk prg 37 (dp 19 x37 r37 [0,1,2]) := ds (by kernel_rfl) (by kernel_rfl)
theorem s36 : SOk prg 36 (dp 46 x36 r36 [0,1,2]) := ds (by kernel_rfl) (by kernel_rfl)
theorem s42 : SOk prg 42 (dp 29 x42 r42 [0,1]) := ds (by kernel_rfl) (by kernel_rfl)
theorem s58 : SOk prg 58 (dp 4 x58 r58 [0]) := ds (by kernel_rfl) (by kernel_rfl)
theorem s56 : SOk prg 56 (dp 22 x56 r56 [0,1]) := ds (by kernel_rfl) (by kernel_rfl)
theorem s61 : SOk prg 61 (dp 4 x61 r61 [0]) := ds (by kernel_rfl) (by kernel_rfl)
theorem s59 : SOk prg 59 (dp 22 x59 r59 [0,1]) := ds (by kernel_rfl) (by kernel_rfl)
theorem s68 : SOk prg 68 (dp 26 x68 r68 [0,1]) := ds (by kernel_rfl) (by kernel_rfl)
theorem s67 : SOk prg 67 (dp 28 x67 r67 [0,1,2]) := ds (by kernel_rfl) (by kernel_rfl)
theorem s120 : SOk prg 120 (dp 122 x120 r120 [0]) := ds (by kernel_rfl) (by kernel_rfl)
theorem s71 : SOk prg 71 (dp 22 x71 r71 [0]) := ds (by kernel_rfl) (by kernel_rfl)
theorem s70 : SOk prg 70 (dp 32 x70 r70 [0,1]) := ds (by kernel_rfl) (by kernel_rfl)
theorem s121 : SOk prg 121 (dp 20 x121 r121 [0,1]) := ds (by kernel_rfl) (by kernel_rfl)
theorem s73 : SOk prg 73 (dp 23 x73 r73 [0]) := ds (by kernel_rfl) (by kernel_rfl)
theorem s125 : SOk prg 125 (dp 9 x125 r125 [0]) := ds (by kernel_rfl) (by kernel_rfl)
theorem s126 : SOk prg 126 (dp 24 x126 r126 [0]) := ds (by kernel_rfl) (by kernel_rfl)
theorem s127 : SOk prg 127 (dp 17 x127 r127 [0]) := ds (by kernel_rfl) (by kernel_rfl)
theorem s128 : SOk prg 128 (dp 12 x128 r128 [0]) := ds (by kernel_rfl) (by kernel_rfl)
theorem s164 : SOk prg 164 (dp 10 x164 r164 [0]) := dt [(20,t20),(21,t21)] ⟨by kernel_rfl,by kernel_rfl,trivial⟩ (by kernel_rfl) (by kernel_rfl)
theorem s129 : SOk prg 129 (dp 69 x129 r129 [0]) := ds (by kernel_rfl) (by kernel_rfl)
theorem s212 : SOk prg 212 (dp 18 x212 r212 [0,1]) := ds (by kernel_rfl) (by kernel_rfl)
theorem s165 : SOk prg 165 (dp 8 x165 r165 [0,1]) := ds (by kernel_rfl) (by kernel_rfl)
theorem s167 : SOk prg 167 (dp 19 x167 r167 [0]) := ds (by kernel_rfl) (by kernel_rfl)
theorem s130 : SOk prg 130 (dp 41 x130 r130 [0]) := ds (by kernel_rfl) (by kernel_rfl)
theorem s131 : SOk prg 131 (dp 32 x131 r131 [0]) := ds (by kernel_rfl) (by kernel_rfl)
theorem s168 : SOk prg 168 (dp 8 x168 r168 [0,1]) := ds (by kernel_rfl) (by kernel_rfl)
theorem s132 : SOk prg 132 (dp 22 x132 r132 [0]) := ds (by kernel_rfl) (by kernel_rfl)
theorem s74 : SOk prg 74 (dp 57 x74 r74 [0]) := ds (by kernel_rfl) (by kernel_rfl)
theorem s72 : SOk prg 72 (dp 40 x72 r72 [0,1]) := ds (by kernel_rfl) (by kernel_rfl)
theorem s170 : SOk prg 170 (dp 59 x170 r170 [0,1]) := ds (by kernel_rfl) (by kernel_rfl)
theorem s135 : SOk prg 135 (dp 29 x135 r135 [0,1]) := ds (by kernel_rfl) (by kernel_rfl)
theorem s81 : SOk prg 81 (dp 24 x81 r81 [0,1,2]) := ds (by kernel_rfl) (by kernel_rfl)
theorem s85 : SOk prg 85 (dp 52 x85 r85 [0,1,2,3,4,5]) := ds (by kernel_rfl) (by kernel_rfl)
theorem s86 : SOk prg 86 (dp 8 x86 r86 [0,1]) := ds (by kernel_rfl) (by kernel_rfl)
theorem s234 : SOk prg 234 (dp 19 x234 r234 [0,1]) := ds (by kernel_rfl) (by kernel_rfl)
theorem s183 : SOk prg 183 (dp 9 x183 r183 [0,1]) := ds (by kernel_rfl) (by kernel_rfl)
theorem s140 : SOk prg 140 (dp 31 x140 r140 [0,1,2,3,4]) := ds (by kernel_rfl) (by kernel_rfl)
theorem s92 : SOk prg 92 (dp 25 x92 r92 [0,1,2,3]) := ds (by kernel_rfl) (by kernel_rfl)
end
end Tb
