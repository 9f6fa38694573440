import Derived.Test.YtmjcgaaeejpkgaaGreatDoorS
set_option autoImplicit false
set_option maxRecDepth 100000
set_option linter.unusedVariables false
namespace Tb
open Go Hb
noncomputable section
theorem s41 : SOk prg 41 (dp 4 x41 r41 [0]) := ds (by kernel_rfl) (by kernel_rfl)
theorem s19 : SOk prg 19 (dp 26 x19 r19 [0]) := dt [(6,t6),(7,t7)] ⟨by kernel_rfl,by kernel_rfl,trivial⟩ (by kernel_rfl) (by kernel_rfl)
theorem s20 : SOk prg 20 (dp 4 x20 r20 [0]) := ds (by kernel_rfl) (by kernel_rfl)
theorem s11 : SOk prg 11 (dp 59 x11 r11 [0]) := dt [(0,t0),(1,t1)] ⟨by kernel_rfl,by kernel_rfl,trivial⟩ (by kernel_rfl) (by kernel_rfl)
theorem s96 : SOk prg 96 (dp 6 x96 r96 [0,1]) := ds (by kernel_rfl) (by kernel_rfl)
theorem s48 : SOk prg 48 (dp 17 x48 r48 [0]) := dt [(10,t10),(11,t11)] ⟨by kernel_rfl,by kernel_rfl,trivial⟩ (by kernel_rfl) (by kernel_rfl)
theorem s199 : SOk prg 199 (dp 25 x199 r199 [0]) := ds (by kernel_rfl) (by kernel_rfl)
theorem s155 : SOk prg 155 (dp 8 x155 r155 [0]) := ds (by kernel_rfl) (by kernel_rfl)
theorem s200 : SOk prg 200 (dp 49 x200 r200 [0,1,2]) := ds (by kernel_rfl) (by kernel_rfl)
theorem s157 : SOk prg 157 (dp 134 x157 r157 [0,1,2,3]) := ds (by kernel_rfl) (by kernel_rfl)
theorem s111 : SOk prg 111 (dp 11 x111 r111 [0]) := ds (by kernel_rfl) (by kernel_rfl)
theorem s98 : SOk prg 98 (dp 12 x98 r98 [0]) := ds (by kernel_rfl) (by kernel_rfl)
theorem s99 : SOk prg 99 (dp 24 x99 r99 [0]) := ds (by kernel_rfl) (by kernel_rfl)
theorem s49 : SOk prg 49 (dp 16 x49 r49 [0]) := ds (by kernel_rfl) (by kernel_rfl)
theorem s156 : SOk prg 156 (dp 13 x156 r156 [0,1]) := dt [(14,t14),(15,t15)] ⟨by kernel_rfl,by kernel_rfl,trivial⟩ (by kernel_rfl) (by kernel_rfl)
theorem s110 : SOk prg 110 (dp 5 x110 r110 [0]) := ds (by kernel_rfl) (by kernel_rfl)
theorem s60 : SOk prg 60 (dp 9 x60 r60 [0]) := ds (by kernel_rfl) (by kernel_rfl)
theorem s100 : SOk prg 100 (dp 4 x100 r100 [0]) := ds (by kernel_rfl) (by kernel_rfl)
theorem s101 : SOk prg 101 (dp 61 x101 r101 [0]) := ds (by kernel_rfl) (by kernel_rfl)
theorem s50 : SOk prg 50 (dp 21 x50 r50 [0,1]) := ds (by kernel_rfl) (by kernel_rfl)
theorem s35 : SOk prg 35 (dp 13 x35 r35 [0,1]) := dt [(8,t8),(9,t9)] ⟨by kernel_rfl,by kernel_rfl,trivial⟩ (by kernel_rfl) (by kernel_rfl)
theorem s14 : SOk prg 14 (dp 5 x14 r14 [0]) := ds (by kernel_rfl) (by kernel_rfl)
theorem s62 : SOk prg 62 (dp 6 x62 r62 [0]) := ds (by kernel_rfl) (by kernel_rfl)
theorem s195 : SOk prg 195 (dp 17 x195 r195 [0,1]) := ds (by kernel_rfl) (by kernel_rfl)
theorem s189 : SOk prg 189 (dp 49 x189 r189 [0,1,2]) := ds (by kernel_rfl) (by kernel_rfl)
theorem s154 : SOk prg 154 (dp 134 x154 r154 [0,1,2,3]) := ds (by kernel_rfl) (by kernel_rfl)
theorem s108 : SOk prg 108 (dp 11 x108 r108 [0]) := ds (by kernel_rfl) (by kernel_rfl)
theorem s57 : SOk prg 57 (dp 9 x57 r57 [0]) := ds (by kernel_rfl) (by kernel_rfl)
def o57 : Fun := sortedW (dp 9 x57 r57 [0])
theorem so57 : SOk prg 57 o57 := sortedW_ok s57
theorem s149 : SOk prg 149 (dp 4 x149 r149 [0]) := ds (by kernel_rfl) (by kernel_rfl)
theorem s150 : SOk prg 150 (dp 61 x150 r150 [0]) := ds (by kernel_rfl) (by kernel_rfl)
theorem s102 : SOk prg 102 (dp 21 x102 r102 [0,1]) := ds (by kernel_rfl) (by kernel_rfl)
theorem s151 : SOk prg 151 (dp 19 x151 r151 [0,1]) := ds (by kernel_rfl) (by kernel_rfl)
theorem s103 : SOk prg 103 (dp 9 x103 r103 [0,1]) := ds (by kernel_rfl) (by kernel_rfl)
theorem s51 : SOk prg 51 (dp 10 x51 r51 [0]) := ds (by kernel_rfl) (by kernel_rfl)
theorem s105 : SOk prg 105 (dp 10 x105 r105 [0]) := ds (by kernel_rfl) (by kernel_rfl)
theorem s106 : SOk prg 106 (dp 169 x106 r106 [0]) := ds (by kernel_rfl) (by kernel_rfl)
theorem s216 : SOk prg 216 (dp 8 x216 r216 [0,1]) := ds (by kernel_rfl) (by kernel_rfl)
theorem s188 : SOk prg 188 (dp 143 x188 r188 [0,1]) := ds (by kernel_rfl) (by kernel_rfl)
theorem s153 : SOk prg 153 (dp 8 x153 r153 [0,1]) := ds (by kernel_rfl) (by kernel_rfl)
theorem s107 : SOk prg 107 (dp 9 x107 r107 [0,1]) := ds (by kernel_rfl) (by kernel_rfl)
end
end Tb
