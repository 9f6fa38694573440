import Derived.Test.YtmjcgaaeejpkgaaGreatDoorS0
set_option autoImplicit false
set_option maxRecDepth 100000
set_option linter.unusedVariables false
namespace Tb
open Go Hb
noncomputable section
theorem s52 : SOk prg 52 (dp 32 x52 r52 [0]) := ds (by kernel_rfl) (by kernel_rfl)
theorem s22 : SOk prg 22 (dp 86 x22 r22 [0]) := ds (by kernel_rfl) (by kernel_rfl)
theorem s53 : SOk prg 53 (dp 8 x53 r53 [0]) := ds (by kernel_rfl) (by kernel_rfl)
theorem s54 : SOk prg 54 (dp 8 x54 r54 [0]) := ds (by kernel_rfl) (by kernel_rfl)
theorem s23 : SOk prg 23 (dp 30 x23 r23 [0]) := ds (by kernel_rfl) (by kernel_rfl)
theorem s55 : SOk prg 55 (dp 13 x55 r55 [0,1]) := dt [(12,t12),(13,t13)] ⟨by kernel_rfl,by kernel_rfl,trivial⟩ (by kernel_rfl) (by kernel_rfl)
theorem s24 : SOk prg 24 (dp 5 x24 r24 [0]) := ds (by kernel_rfl) (by kernel_rfl)
theorem s25 : SOk prg 25 (dp 4 x25 r25 [0]) := ds (by kernel_rfl) (by kernel_rfl)
theorem s26 : SOk prg 26 (dp 4 x26 r26 [0]) := ds (by kernel_rfl) (by kernel_rfl)
theorem s12 : SOk prg 12 (dp 115 x12 r12 [0]) := dt [(2,t2),(3,t3)] ⟨by kernel_rfl,by kernel_rfl,trivial⟩ (by kernel_rfl) (by kernel_rfl)
theorem s6 : SOk prg 6 (dp 26 x6 r6 [0]) := ds (by kernel_rfl) (by kernel_rfl)
theorem s27 : SOk prg 27 (dp 8 x27 r27 [0]) := ds (by kernel_rfl) (by kernel_rfl)
theorem s28 : SOk prg 28 (dp 25 x28 r28 [0,1]) := ds (by kernel_rfl) (by kernel_rfl)
theorem s31 : SOk prg 31 (dp 21 x31 r31 [0]) := ds (by kernel_rfl) (by kernel_rfl)
theorem s64 : SOk prg 64 (dp 19 x64 r64 [0,1]) := ds (by kernel_rfl) (by kernel_rfl)
theorem s32 : SOk prg 32 (dp 9 x32 r32 [0,1]) := ds (by kernel_rfl) (by kernel_rfl)
theorem s13 : SOk prg 13 (dp 23 x13 r13 [0]) := ds (by kernel_rfl) (by kernel_rfl)
theorem s15 : SOk prg 15 (dp 6 x15 r15 [0,1]) := ds (by kernel_rfl) (by kernel_rfl)
theorem s7 : SOk prg 7 (dp 12 x7 r7 [0,1]) := ds (by kernel_rfl) (by kernel_rfl)
theorem s8 : SOk prg 8 (dp 26 x8 r8 [0,1]) := ds (by kernel_rfl) (by kernel_rfl)
theorem s116 : SOk prg 116 (dp 11 x116 r116 [0]) := ds (by kernel_rfl) (by kernel_rfl)
theorem s117 : SOk prg 117 (dp 8 x117 r117 [0]) := ds (by kernel_rfl) (by kernel_rfl)
theorem s119 : SOk prg 119 (dp 4 x119 r119 [0]) := ds (by kernel_rfl) (by kernel_rfl)
theorem s158 : SOk prg 158 (dp 34 x158 r158 [0,1,2]) := dt [(16,t16),(17,t17)] ⟨by kernel_rfl,by kernel_rfl,trivial⟩ (by kernel_rfl) (by kernel_rfl)
theorem s159 : SOk prg 159 (dp 16 x159 r159 [0,1]) := dt [(18,t18),(19,t19)] ⟨by kernel_rfl,by kernel_rfl,trivial⟩ (by kernel_rfl) (by kernel_rfl)
theorem s118 : SOk prg 118 (dp 96 x118 r118 [0,1,2]) := ds (by kernel_rfl) (by kernel_rfl)
theorem s160 : SOk prg 160 (dp 19 x160 r160 [0,1,2]) := ds (by kernel_rfl) (by kernel_rfl)
theorem s69 : SOk prg 69 (dp 38 x69 r69 [0,1,2,3]) := ds (by kernel_rfl) (by kernel_rfl)
theorem s38 : SOk prg 38 (dp 11 x38 r38 [0,1,2]) := ds (by kernel_rfl) (by kernel_rfl)
theorem s39 : SOk prg 39 (dp 11 x39 r39 [0,1,2]) := ds (by kernel_rfl) (by kernel_rfl)
theorem s16 : SOk prg 16 (dp 38 x16 r16 [0,1,2]) := ds (by kernel_rfl) (by kernel_rfl)
theorem s9 : SOk prg 9 (dp 27 x9 r9 [0,1,2]) := ds (by kernel_rfl) (by kernel_rfl)
theorem s40 : SOk prg 40 (dp 4 x40 r40 [0]) := ds (by kernel_rfl) (by kernel_rfl)
theorem s17 : SOk prg 17 (dp 22 x17 r17 [0]) := dt [(4,t4),(5,t5)] ⟨by kernel_rfl,by kernel_rfl,trivial⟩ (by kernel_rfl) (by kernel_rfl)
def o17 : Fun := twoRows (dp 22 x17 r17 [0])
theorem so17 : SOk prg 17 o17 := twoRows_ok s17
theorem s18 : SOk prg 18 (dp 26 x18 r18 [0,1,2]) := ds (by kernel_rfl) (by kernel_rfl)
theorem s10 : SOk prg 10 (dp 35 x10 r10 [0,1]) := ds (by kernel_rfl) (by kernel_rfl)
theorem s5 : SOk prg 5 (dp 45 x5 r5 []) := ds (by kernel_rfl) (by kernel_rfl)
theorem s3 : SOk prg 3 (dp 71 x3 r3 [0]) := ds (by kernel_rfl) (by kernel_rfl)
theorem s4 : SOk prg 4 (dp 97 x4 r4 [0,1]) := ds (by kernel_rfl) (by kernel_rfl)
theorem s46 : SOk prg 46 (dp 23 x46 r46 [0,1,2]) := ds (by kernel_rfl) (by kernel_rfl)
end
end Tb
