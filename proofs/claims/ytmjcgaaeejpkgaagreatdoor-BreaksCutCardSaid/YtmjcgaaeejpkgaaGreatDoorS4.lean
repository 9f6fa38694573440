import Derived.Test.YtmjcgaaeejpkgaaGreatDoorS3
set_option autoImplicit false
set_option maxRecDepth 100000
set_option linter.unusedVariables false
namespace Tb
open Go Hb
noncomputable section
theorem s91 : SOk prg 91 (dp 16 x91 r91 [0,1,2]) := ds (by kernel_rfl) (by kernel_rfl)
theorem s143 : SOk prg 143 (dp 11 x143 r143 [0]) := ds (by kernel_rfl) (by kernel_rfl)
theorem s144 : SOk prg 144 (dp 32 x144 r144 [0]) := ds (by kernel_rfl) (by kernel_rfl)
theorem s97 : SOk prg 97 (dp 64 x97 r97 [0]) := ds (by kernel_rfl) (by kernel_rfl)
theorem s104 : SOk prg 104 (dp 9 x104 r104 [0]) := ds (by kernel_rfl) (by kernel_rfl)
theorem s109 : SOk prg 109 (dp 14 x109 r109 [0,1]) := ds (by kernel_rfl) (by kernel_rfl)
theorem s112 : SOk prg 112 (dp 14 x112 r112 [0,1]) := ds (by kernel_rfl) (by kernel_rfl)
theorem s122 : SOk prg 122 (dp 13 x122 r122 [0]) := ds (by kernel_rfl) (by kernel_rfl)
theorem s142 : SOk prg 142 (dp 53 x142 r142 [0,1,2]) := ds (by kernel_rfl) (by kernel_rfl)
theorem s146 : SOk prg 146 (dp 32 x146 r146 [0,1,2]) := ds (by kernel_rfl) (by kernel_rfl)
theorem s148 : SOk prg 148 (dp 16 x148 r148 [0,1]) := ds (by kernel_rfl) (by kernel_rfl)
theorem s161 : SOk prg 161 (dp 20 x161 r161 [0,1]) := ds (by kernel_rfl) (by kernel_rfl)
theorem s163 : SOk prg 163 (dp 17 x163 r163 [0]) := ds (by kernel_rfl) (by kernel_rfl)
theorem s187 : SOk prg 187 (dp 16 x187 r187 [0,1]) := ds (by kernel_rfl) (by kernel_rfl)
theorem s208 : SOk prg 208 (dp 31 x208 r208 [0,1]) := ds (by kernel_rfl) (by kernel_rfl)
theorem s266 : SOk prg 266 (dp 19 x266 r266 [0,1]) := ds (by kernel_rfl) (by kernel_rfl)
theorem s246 : SOk prg 246 (dp 9 x246 r246 [0,1]) := ds (by kernel_rfl) (by kernel_rfl)
theorem s209 : SOk prg 209 (dp 8 x209 r209 [0,1]) := ds (by kernel_rfl) (by kernel_rfl)
theorem s247 : SOk prg 247 (dp 18 x247 r247 [0,1]) := ds (by kernel_rfl) (by kernel_rfl)
theorem s309 : SOk prg 309 (dp 44 x309 r309 [0,1]) := ds (by kernel_rfl) (by kernel_rfl)
theorem s314 : SOk prg 314 (dp 6 x314 r314 [0]) := ds (by kernel_rfl) (by kernel_rfl)
theorem s312 : SOk prg 312 (dp 20 x312 r312 [0,1]) := ds (by kernel_rfl) (by kernel_rfl)
theorem s311 : SOk prg 311 (dp 10 x311 r311 [0,1]) := ds (by kernel_rfl) (by kernel_rfl)
end
end Tb
