import Derived.Test.YtmjcgaaeejpkgaaGreatDoorS1
set_option autoImplicit false
set_option maxRecDepth 100000
set_option linter.unusedVariables false
namespace Tb
open Go Hb
noncomputable section
theorem s75 : SOk prg 75 (dp 46 x75 r75 [0,1]) := ds (by kernel_rfl) (by kernel_rfl)
theorem s84 : SOk prg 84 (dp 39 x84 r84 [0,1]) := ds (by kernel_rfl) (by kernel_rfl)
theorem s76 : SOk prg 76 (dp 21 x76 r76 [0,1]) := ds (by kernel_rfl) (by kernel_rfl)
theorem s136 : SOk prg 136 (dp 77 x136 r136 [0]) := ds (by kernel_rfl) (by kernel_rfl)
theorem s82 : SOk prg 82 (dp 18 x82 r82 [0]) := ds (by kernel_rfl) (by kernel_rfl)
theorem s269 : SOk prg 269 (dp 31 x269 r269 [0]) := ds (by kernel_rfl) (by kernel_rfl)
theorem s251 : SOk prg 251 (dp 24 x251 r251 [0,1]) := ds (by kernel_rfl) (by kernel_rfl)
theorem s218 : SOk prg 218 (dp 18 x218 r218 [0,1]) := ds (by kernel_rfl) (by kernel_rfl)
theorem s306 : SOk prg 306 (dp 4 x306 r306 [0]) := ds (by kernel_rfl) (by kernel_rfl)
theorem s186 : SOk prg 186 (dp 18 x186 r186 [0]) := ds (by kernel_rfl) (by kernel_rfl)
theorem s315 : SOk prg 315 (dp 53 x315 r315 [0,1,2,3]) := ds (by kernel_rfl) (by kernel_rfl)
theorem s313 : SOk prg 313 (dp 148 x313 r313 [0,1,2,3,4]) := ds (by kernel_rfl) (by kernel_rfl)
theorem s310 : SOk prg 310 (dp 14 x310 r310 [0,1]) := ds (by kernel_rfl) (by kernel_rfl)
theorem s307 : SOk prg 307 (dp 27 x307 r307 [0]) := ds (by kernel_rfl) (by kernel_rfl)
theorem s301 : SOk prg 301 (dp 19 x301 r301 [0]) := dt [(22,t22),(23,t23)] ⟨by kernel_rfl,by kernel_rfl,trivial⟩ (by kernel_rfl) (by kernel_rfl)
theorem s308 : SOk prg 308 (dp 27 x308 r308 [0,1]) := ds (by kernel_rfl) (by kernel_rfl)
theorem s305 : SOk prg 305 (dp 36 x305 r305 [0]) := ds (by kernel_rfl) (by kernel_rfl)
theorem s299 : SOk prg 299 (dp 10 x299 r299 [0,1]) := ds (by kernel_rfl) (by kernel_rfl)
theorem s304 : SOk prg 304 (dp 26 x304 r304 [0]) := ds (by kernel_rfl) (by kernel_rfl)
theorem s298 : SOk prg 298 (dp 52 x298 r298 [0]) := ds (by kernel_rfl) (by kernel_rfl)
theorem s289 : SOk prg 289 (dp 11 x289 r289 [0]) := ds (by kernel_rfl) (by kernel_rfl)
theorem s277 : SOk prg 277 (dp 29 x277 r277 [0]) := ds (by kernel_rfl) (by kernel_rfl)
theorem s267 : SOk prg 267 (dp 91 x267 r267 [0]) := ds (by kernel_rfl) (by kernel_rfl)
theorem s268 : SOk prg 268 (dp 12 x268 r268 [0]) := ds (by kernel_rfl) (by kernel_rfl)
theorem s249 : SOk prg 249 (dp 20 x249 r249 [0]) := ds (by kernel_rfl) (by kernel_rfl)
theorem s250 : SOk prg 250 (dp 22 x250 r250 [0]) := ds (by kernel_rfl) (by kernel_rfl)
theorem s217 : SOk prg 217 (dp 20 x217 r217 [0]) := ds (by kernel_rfl) (by kernel_rfl)
theorem s169 : SOk prg 169 (dp 13 x169 r169 [0]) := ds (by kernel_rfl) (by kernel_rfl)
theorem s133 : SOk prg 133 (dp 34 x133 r133 [0,1]) := ds (by kernel_rfl) (by kernel_rfl)
theorem s77 : SOk prg 77 (dp 34 x77 r77 [0]) := ds (by kernel_rfl) (by kernel_rfl)
theorem s83 : SOk prg 83 (dp 29 x83 r83 [0,1]) := ds (by kernel_rfl) (by kernel_rfl)
theorem s44 : SOk prg 44 (dp 36 x44 r44 [0,1,2]) := ds (by kernel_rfl) (by kernel_rfl)
theorem s45 : SOk prg 45 (dp 44 x45 r45 [0,1]) := ds (by kernel_rfl) (by kernel_rfl)
theorem s21 : SOk prg 21 (dp 73 x21 r21 [0,1,2]) := ds (by kernel_rfl) (by kernel_rfl)
theorem s30 : SOk prg 30 (dp 20 x30 r30 [0,1]) := ds (by kernel_rfl) (by kernel_rfl)
theorem s29 : SOk prg 29 (dp 10 x29 r29 [0,1]) := ds (by kernel_rfl) (by kernel_rfl)
theorem s114 : SOk prg 114 (dp 19 x114 r114 [0,1]) := ds (by kernel_rfl) (by kernel_rfl)
theorem s65 : SOk prg 65 (dp 9 x65 r65 [0,1]) := ds (by kernel_rfl) (by kernel_rfl)
theorem s34 : SOk prg 34 (dp 11 x34 r34 [0]) := ds (by kernel_rfl) (by kernel_rfl)
theorem s33 : SOk prg 33 (dp 11 x33 r33 [0]) := ds (by kernel_rfl) (by kernel_rfl)
end
end Tb
