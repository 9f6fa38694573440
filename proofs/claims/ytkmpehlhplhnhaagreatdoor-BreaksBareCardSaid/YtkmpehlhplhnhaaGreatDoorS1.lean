import Derived.Test.YtkmpehlhplhnhaaGreatDoorS0
set_option autoImplicit false
set_option maxRecDepth 100000
set_option linter.unusedVariables false
namespace Tb
open Go Hb
noncomputable section
theorem s54 : SOk prg 54 (dp 8 x54 r54 [0]) := ds (by kernel_rfl) (by kernel_rfl)
theorem s55 : SOk prg 55 (dp 8 x55 r55 [0]) := ds (by kernel_rfl) (by kernel_rfl)
theorem s24 : SOk prg 24 (dp 30 x24 r24 [0]) := ds (by kernel_rfl) (by kernel_rfl)
theorem s56 : SOk prg 56 (dp 13 x56 r56 [0,1]) := dt [(12,t12),(13,t13)] ⟨by kernel_rfl,by kernel_rfl,trivial⟩ (by kernel_rfl) (by kernel_rfl)
theorem s25 : SOk prg 25 (dp 5 x25 r25 [0]) := ds (by kernel_rfl) (by kernel_rfl)
theorem s26 : SOk prg 26 (dp 4 x26 r26 [0]) := ds (by kernel_rfl) (by kernel_rfl)
theorem s27 : SOk prg 27 (dp 4 x27 r27 [0]) := ds (by kernel_rfl) (by kernel_rfl)
theorem s12 : SOk prg 12 (dp 115 x12 r12 [0]) := dt [(2,t2),(3,t3)] ⟨by kernel_rfl,by kernel_rfl,trivial⟩ (by kernel_rfl) (by kernel_rfl)
theorem s5 : SOk prg 5 (dp 26 x5 r5 [0]) := ds (by kernel_rfl) (by kernel_rfl)
theorem s29 : SOk prg 29 (dp 8 x29 r29 [0]) := ds (by kernel_rfl) (by kernel_rfl)
theorem s30 : SOk prg 30 (dp 25 x30 r30 [0,1]) := ds (by kernel_rfl) (by kernel_rfl)
theorem s33 : SOk prg 33 (dp 21 x33 r33 [0]) := ds (by kernel_rfl) (by kernel_rfl)
theorem s67 : SOk prg 67 (dp 19 x67 r67 [0,1]) := ds (by kernel_rfl) (by kernel_rfl)
theorem s34 : SOk prg 34 (dp 9 x34 r34 [0,1]) := ds (by kernel_rfl) (by kernel_rfl)
theorem s16 : SOk prg 16 (dp 23 x16 r16 [0]) := ds (by kernel_rfl) (by kernel_rfl)
theorem s19 : SOk prg 19 (dp 6 x19 r19 [0,1]) := ds (by kernel_rfl) (by kernel_rfl)
theorem s10 : SOk prg 10 (dp 12 x10 r10 [0,1]) := ds (by kernel_rfl) (by kernel_rfl)
theorem s28 : SOk prg 28 (dp 4 x28 r28 [0]) := ds (by kernel_rfl) (by kernel_rfl)
theorem s14 : SOk prg 14 (dp 22 x14 r14 [0]) := dt [(4,t4),(5,t5)] ⟨by kernel_rfl,by kernel_rfl,trivial⟩ (by kernel_rfl) (by kernel_rfl)
def o14 : Fun := twoRows (dp 22 x14 r14 [0])
theorem so14 : SOk prg 14 o14 := twoRows_ok s14
theorem s15 : SOk prg 15 (dp 26 x15 r15 [0,1,2]) := ds (by kernel_rfl) (by kernel_rfl)
theorem s7 : SOk prg 7 (dp 35 x7 r7 [0,1]) := ds (by kernel_rfl) (by kernel_rfl)
theorem s117 : SOk prg 117 (dp 11 x117 r117 [0]) := ds (by kernel_rfl) (by kernel_rfl)
theorem s118 : SOk prg 118 (dp 8 x118 r118 [0]) := ds (by kernel_rfl) (by kernel_rfl)
theorem s120 : SOk prg 120 (dp 4 x120 r120 [0]) := ds (by kernel_rfl) (by kernel_rfl)
theorem s159 : SOk prg 159 (dp 34 x159 r159 [0,1,2]) := dt [(16,t16),(17,t17)] ⟨by kernel_rfl,by kernel_rfl,trivial⟩ (by kernel_rfl) (by kernel_rfl)
theorem s160 : SOk prg 160 (dp 16 x160 r160 [0,1]) := dt [(18,t18),(19,t19)] ⟨by kernel_rfl,by kernel_rfl,trivial⟩ (by kernel_rfl) (by kernel_rfl)
theorem s119 : SOk prg 119 (dp 96 x119 r119 [0,1,2]) := ds (by kernel_rfl) (by kernel_rfl)
theorem s161 : SOk prg 161 (dp 19 x161 r161 [0,1,2]) := ds (by kernel_rfl) (by kernel_rfl)
theorem s69 : SOk prg 69 (dp 38 x69 r69 [0,1,2,3]) := ds (by kernel_rfl) (by kernel_rfl)
theorem s37 : SOk prg 37 (dp 11 x37 r37 [0,1,2]) := ds (by kernel_rfl) (by kernel_rfl)
theorem s38 : SOk prg 38 (dp 11 x38 r38 [0,1,2]) := ds (by kernel_rfl) (by kernel_rfl)
theorem s17 : SOk prg 17 (dp 38 x17 r17 [0,1,2]) := ds (by kernel_rfl) (by kernel_rfl)
theorem s8 : SOk prg 8 (dp 27 x8 r8 [0,1,2]) := ds (by kernel_rfl) (by kernel_rfl)
theorem s9 : SOk prg 9 (dp 26 x9 r9 [0,1]) := ds (by kernel_rfl) (by kernel_rfl)
theorem s4 : SOk prg 4 (dp 45 x4 r4 []) := ds (by kernel_rfl) (by kernel_rfl)
theorem s13 : SOk prg 13 (dp 89 x13 r13 [0]) := ds (by kernel_rfl) (by kernel_rfl)
theorem s6 : SOk prg 6 (dp 38 x6 r6 [0]) := ds (by kernel_rfl) (by kernel_rfl)
theorem s3 : SOk prg 3 (dp 107 x3 r3 [0,1]) := ds (by kernel_rfl) (by kernel_rfl)
theorem s47 : SOk prg 47 (dp 23 x47 r47 [0,1,2]) := ds (by kernel_rfl) (by kernel_rfl)
theorem s76 : SOk prg 76 (dp 46 x76 r76 [0,1]) := ds (by kernel_rfl) (by kernel_rfl)
end
end Tb
