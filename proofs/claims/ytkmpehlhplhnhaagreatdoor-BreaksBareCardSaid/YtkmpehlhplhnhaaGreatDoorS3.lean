import Derived.Test.YtkmpehlhplhnhaaGreatDoorS2
set_option autoImplicit false
set_option maxRecDepth 100000
set_option linter.unusedVariables false
namespace Tb
open Go Hb
noncomputable section
theorem s127 : SOk prg 127 (dp 24 x127 r127 [0]) := ds (by kernel_rfl) (by kernel_rfl)
theorem s128 : SOk prg 128 (dp 17 x128 r128 [0]) := ds (by kernel_rfl) (by kernel_rfl)
theorem s129 : SOk prg 129 (dp 12 x129 r129 [0]) := ds (by kernel_rfl) (by kernel_rfl)
theorem s165 : SOk prg 165 (dp 10 x165 r165 [0]) := dt [(20,t20),(21,t21)] ⟨by kernel_rfl,by kernel_rfl,trivial⟩ (by kernel_rfl) (by kernel_rfl)
theorem s130 : SOk prg 130 (dp 69 x130 r130 [0]) := ds (by kernel_rfl) (by kernel_rfl)
theorem s213 : SOk prg 213 (dp 18 x213 r213 [0,1]) := ds (by kernel_rfl) (by kernel_rfl)
theorem s166 : SOk prg 166 (dp 8 x166 r166 [0,1]) := ds (by kernel_rfl) (by kernel_rfl)
theorem s168 : SOk prg 168 (dp 19 x168 r168 [0]) := ds (by kernel_rfl) (by kernel_rfl)
theorem s131 : SOk prg 131 (dp 41 x131 r131 [0]) := ds (by kernel_rfl) (by kernel_rfl)
theorem s169 : SOk prg 169 (dp 8 x169 r169 [0,1]) := ds (by kernel_rfl) (by kernel_rfl)
theorem s133 : SOk prg 133 (dp 22 x133 r133 [0]) := ds (by kernel_rfl) (by kernel_rfl)
theorem s75 : SOk prg 75 (dp 57 x75 r75 [0]) := ds (by kernel_rfl) (by kernel_rfl)
theorem s73 : SOk prg 73 (dp 40 x73 r73 [0,1]) := ds (by kernel_rfl) (by kernel_rfl)
theorem s171 : SOk prg 171 (dp 59 x171 r171 [0,1]) := ds (by kernel_rfl) (by kernel_rfl)
theorem s136 : SOk prg 136 (dp 29 x136 r136 [0,1]) := ds (by kernel_rfl) (by kernel_rfl)
theorem s82 : SOk prg 82 (dp 24 x82 r82 [0,1,2]) := ds (by kernel_rfl) (by kernel_rfl)
theorem s86 : SOk prg 86 (dp 52 x86 r86 [0,1,2,3,4,5]) := ds (by kernel_rfl) (by kernel_rfl)
theorem s235 : SOk prg 235 (dp 19 x235 r235 [0,1]) := ds (by kernel_rfl) (by kernel_rfl)
theorem s184 : SOk prg 184 (dp 9 x184 r184 [0,1]) := ds (by kernel_rfl) (by kernel_rfl)
theorem s141 : SOk prg 141 (dp 31 x141 r141 [0,1,2,3,4]) := ds (by kernel_rfl) (by kernel_rfl)
theorem s93 : SOk prg 93 (dp 25 x93 r93 [0,1,2,3]) := ds (by kernel_rfl) (by kernel_rfl)
theorem s92 : SOk prg 92 (dp 16 x92 r92 [0,1,2]) := ds (by kernel_rfl) (by kernel_rfl)
theorem s144 : SOk prg 144 (dp 11 x144 r144 [0]) := ds (by kernel_rfl) (by kernel_rfl)
theorem s187 : SOk prg 187 (dp 18 x187 r187 [0]) := ds (by kernel_rfl) (by kernel_rfl)
theorem s145 : SOk prg 145 (dp 32 x145 r145 [0]) := ds (by kernel_rfl) (by kernel_rfl)
theorem s98 : SOk prg 98 (dp 64 x98 r98 [0]) := ds (by kernel_rfl) (by kernel_rfl)
theorem s105 : SOk prg 105 (dp 9 x105 r105 [0]) := ds (by kernel_rfl) (by kernel_rfl)
theorem s110 : SOk prg 110 (dp 14 x110 r110 [0,1]) := ds (by kernel_rfl) (by kernel_rfl)
theorem s113 : SOk prg 113 (dp 14 x113 r113 [0,1]) := ds (by kernel_rfl) (by kernel_rfl)
theorem s123 : SOk prg 123 (dp 13 x123 r123 [0]) := ds (by kernel_rfl) (by kernel_rfl)
theorem s143 : SOk prg 143 (dp 53 x143 r143 [0,1,2]) := ds (by kernel_rfl) (by kernel_rfl)
theorem s147 : SOk prg 147 (dp 32 x147 r147 [0,1,2]) := ds (by kernel_rfl) (by kernel_rfl)
theorem s149 : SOk prg 149 (dp 16 x149 r149 [0,1]) := ds (by kernel_rfl) (by kernel_rfl)
theorem s162 : SOk prg 162 (dp 20 x162 r162 [0,1]) := ds (by kernel_rfl) (by kernel_rfl)
theorem s164 : SOk prg 164 (dp 17 x164 r164 [0]) := ds (by kernel_rfl) (by kernel_rfl)
theorem s188 : SOk prg 188 (dp 16 x188 r188 [0,1]) := ds (by kernel_rfl) (by kernel_rfl)
theorem s209 : SOk prg 209 (dp 31 x209 r209 [0,1]) := ds (by kernel_rfl) (by kernel_rfl)
theorem s267 : SOk prg 267 (dp 19 x267 r267 [0,1]) := ds (by kernel_rfl) (by kernel_rfl)
theorem s247 : SOk prg 247 (dp 9 x247 r247 [0,1]) := ds (by kernel_rfl) (by kernel_rfl)
theorem s210 : SOk prg 210 (dp 8 x210 r210 [0,1]) := ds (by kernel_rfl) (by kernel_rfl)
end
end Tb
