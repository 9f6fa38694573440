import Derived.Test.YtkmpehlhplhnhaaGreatDoorS
set_option autoImplicit false
set_option maxRecDepth 100000
set_option linter.unusedVariables false
namespace Tb
open Go Hb
noncomputable section
theorem s42 : SOk prg 42 (dp 4 x42 r42 [0]) := ds (by kernel_rfl) (by kernel_rfl)
theorem s20 : SOk prg 20 (dp 26 x20 r20 [0]) := dt [(6,t6),(7,t7)] ⟨by kernel_rfl,by kernel_rfl,trivial⟩ (by kernel_rfl) (by kernel_rfl)
theorem s21 : SOk prg 21 (dp 4 x21 r21 [0]) := ds (by kernel_rfl) (by kernel_rfl)
theorem s11 : SOk prg 11 (dp 59 x11 r11 [0]) := dt [(0,t0),(1,t1)] ⟨by kernel_rfl,by kernel_rfl,trivial⟩ (by kernel_rfl) (by kernel_rfl)
theorem s97 : SOk prg 97 (dp 6 x97 r97 [0,1]) := ds (by kernel_rfl) (by kernel_rfl)
theorem s49 : SOk prg 49 (dp 17 x49 r49 [0]) := dt [(10,t10),(11,t11)] ⟨by kernel_rfl,by kernel_rfl,trivial⟩ (by kernel_rfl) (by kernel_rfl)
theorem s200 : SOk prg 200 (dp 25 x200 r200 [0]) := ds (by kernel_rfl) (by kernel_rfl)
theorem s156 : SOk prg 156 (dp 8 x156 r156 [0]) := ds (by kernel_rfl) (by kernel_rfl)
theorem s201 : SOk prg 201 (dp 49 x201 r201 [0,1,2]) := ds (by kernel_rfl) (by kernel_rfl)
theorem s158 : SOk prg 158 (dp 134 x158 r158 [0,1,2,3]) := ds (by kernel_rfl) (by kernel_rfl)
theorem s112 : SOk prg 112 (dp 11 x112 r112 [0]) := ds (by kernel_rfl) (by kernel_rfl)
theorem s99 : SOk prg 99 (dp 12 x99 r99 [0]) := ds (by kernel_rfl) (by kernel_rfl)
theorem s100 : SOk prg 100 (dp 24 x100 r100 [0]) := ds (by kernel_rfl) (by kernel_rfl)
theorem s50 : SOk prg 50 (dp 16 x50 r50 [0]) := ds (by kernel_rfl) (by kernel_rfl)
theorem s157 : SOk prg 157 (dp 13 x157 r157 [0,1]) := dt [(14,t14),(15,t15)] ⟨by kernel_rfl,by kernel_rfl,trivial⟩ (by kernel_rfl) (by kernel_rfl)
theorem s111 : SOk prg 111 (dp 5 x111 r111 [0]) := ds (by kernel_rfl) (by kernel_rfl)
theorem s61 : SOk prg 61 (dp 9 x61 r61 [0]) := ds (by kernel_rfl) (by kernel_rfl)
theorem s101 : SOk prg 101 (dp 4 x101 r101 [0]) := ds (by kernel_rfl) (by kernel_rfl)
theorem s102 : SOk prg 102 (dp 61 x102 r102 [0]) := ds (by kernel_rfl) (by kernel_rfl)
theorem s51 : SOk prg 51 (dp 21 x51 r51 [0,1]) := ds (by kernel_rfl) (by kernel_rfl)
theorem s39 : SOk prg 39 (dp 13 x39 r39 [0,1]) := dt [(8,t8),(9,t9)] ⟨by kernel_rfl,by kernel_rfl,trivial⟩ (by kernel_rfl) (by kernel_rfl)
theorem s18 : SOk prg 18 (dp 5 x18 r18 [0]) := ds (by kernel_rfl) (by kernel_rfl)
theorem s190 : SOk prg 190 (dp 49 x190 r190 [0,1,2]) := ds (by kernel_rfl) (by kernel_rfl)
theorem s155 : SOk prg 155 (dp 134 x155 r155 [0,1,2,3]) := ds (by kernel_rfl) (by kernel_rfl)
theorem s109 : SOk prg 109 (dp 11 x109 r109 [0]) := ds (by kernel_rfl) (by kernel_rfl)
theorem s58 : SOk prg 58 (dp 9 x58 r58 [0]) := ds (by kernel_rfl) (by kernel_rfl)
def o58 : Fun := sortedW (dp 9 x58 r58 [0])
theorem so58 : SOk prg 58 o58 := sortedW_ok s58
theorem s150 : SOk prg 150 (dp 4 x150 r150 [0]) := ds (by kernel_rfl) (by kernel_rfl)
theorem s151 : SOk prg 151 (dp 61 x151 r151 [0]) := ds (by kernel_rfl) (by kernel_rfl)
theorem s103 : SOk prg 103 (dp 21 x103 r103 [0,1]) := ds (by kernel_rfl) (by kernel_rfl)
theorem s152 : SOk prg 152 (dp 19 x152 r152 [0,1]) := ds (by kernel_rfl) (by kernel_rfl)
theorem s104 : SOk prg 104 (dp 9 x104 r104 [0,1]) := ds (by kernel_rfl) (by kernel_rfl)
theorem s52 : SOk prg 52 (dp 10 x52 r52 [0]) := ds (by kernel_rfl) (by kernel_rfl)
theorem s106 : SOk prg 106 (dp 10 x106 r106 [0]) := ds (by kernel_rfl) (by kernel_rfl)
theorem s107 : SOk prg 107 (dp 169 x107 r107 [0]) := ds (by kernel_rfl) (by kernel_rfl)
theorem s217 : SOk prg 217 (dp 8 x217 r217 [0,1]) := ds (by kernel_rfl) (by kernel_rfl)
theorem s189 : SOk prg 189 (dp 143 x189 r189 [0,1]) := ds (by kernel_rfl) (by kernel_rfl)
theorem s154 : SOk prg 154 (dp 8 x154 r154 [0,1]) := ds (by kernel_rfl) (by kernel_rfl)
theorem s108 : SOk prg 108 (dp 9 x108 r108 [0,1]) := ds (by kernel_rfl) (by kernel_rfl)
theorem s53 : SOk prg 53 (dp 32 x53 r53 [0]) := ds (by kernel_rfl) (by kernel_rfl)
theorem s23 : SOk prg 23 (dp 86 x23 r23 [0]) := ds (by kernel_rfl) (by kernel_rfl)
end
end Tb
