import Derived.Test.YtkmpehlhplhnhaaGreatDoorAll
import Derived.Test.YtkmpehlhplhnhaaGreatDoorH15
set_option autoImplicit false
set_option maxRecDepth 100000
set_option linter.unusedVariables false
namespace Tb
open Go Hb
noncomputable def nth {α : Type} (l : List α) (d : α) (n : Nat) : α := List.rec (motive := fun _ => Nat → α) (fun _ => d) (fun a _ ih n => Nat.rec (motive := fun _ => α) a (fun m _ => ih m) n) l n
noncomputable def I : Ids := ⟨nth [187,247,248,267,118,120,209,210,162,119,159,160,161,18,117,69,37,38,70,71,14,72,40,17,41,19,16,39,121,10,5,4,9,114,63,64,28,15,13,7,6] 0,nth [126,21,175,4,78,177,81,83,27,30,3,5,31,203,22,99] 0,nth [.tag 16 t16,.tag 17 t17,.tag 8 t8,.tag 9 t9,.tag 4 t4,.tag 5 t5] .skip,nth [gl1,gl0] []⟩
theorem hT : Tabs8 I := ⟨by kernel_rfl,by kernel_rfl⟩
theorem hG : GlobClo prg := fun g cs h => (cloBL_iff cs).1 (by
  have h : cond (Nat.beq g 0) (some gl0) (cond (Nat.beq g 1) (some gl1) (cond (Nat.beq g 8) (some gl8) (none))) = some cs := h
  cases h0 : Nat.beq g 0 with
  | true => rw [h0] at h; cases h; exact (show cloBL gl0 = true by kernel_rfl)
  | false =>
  rw [h0] at h
  cases h1 : Nat.beq g 1 with
  | true => rw [h1] at h; cases h; exact (show cloBL gl1 = true by kernel_rfl)
  | false =>
  rw [h1] at h
  cases h2 : Nat.beq g 8 with
  | true => rw [h2] at h; cases h; exact (show cloBL gl8 = true by kernel_rfl)
  | false =>
  rw [h2] at h
  cases h)
theorem g_right : SOk prg 187 (B_right I) := (show (dp 18 x187 r187 [0]) = B_right I by kernel_rfl) ▸ s187
theorem g_Has1 : SOk prg 248 (B_Has1 I) := (show (dp 18 x248 r248 [0,1]) = B_Has1 I by kernel_rfl) ▸ s248
theorem g_CFR : SOk prg 247 (B_CFR I) := (show (dp 9 x247 r247 [0,1]) = B_CFR I by kernel_rfl) ▸ s247
theorem g_IFR : SOk prg 267 (B_IFR I) := (show (dp 19 x267 r267 [0,1]) = B_IFR I by kernel_rfl) ▸ s267
theorem g_Has : SOk prg 210 (B_Has I) := (show (dp 8 x210 r210 [0,1]) = B_Has I by kernel_rfl) ▸ s210
theorem g_mstep : SOk prg 209 (B_mstep I) := (show (dp 31 x209 r209 [0,1]) = B_mstep I by kernel_rfl) ▸ s209
theorem g_mnone : SOk prg 118 (B_mnone I) := (show (dp 8 x118 r118 [0]) = B_mnone I by kernel_rfl) ▸ s118
theorem g_mall : SOk prg 120 (B_mall I) := (show (dp 4 x120 r120 [0]) = B_mall I by kernel_rfl) ▸ s120
theorem g_mall1 : SOk prg 162 (B_mall1 I) := (show (dp 20 x162 r162 [0,1]) = B_mall1 I by kernel_rfl) ▸ s162
theorem g_mone : SOk prg 159 (B_mone I) := (show (dp 34 x159 r159 [0,1,2]) = B_mone I by kernel_rfl) ▸ s159
theorem gc0_mone : COk prg 16 34 (C0_mone I) := COk.of (Rk := fun R => R) (x := t16) (A := [3,4,7,16]) (L := [3,4,7,8]) hm (by kernel_rfl) (fun R h => h) (by kernel_rfl)
theorem gc1_mone : COk prg 17 34 (C1_mone I) := COk.of (Rk := fun R => R) (x := t17) (A := [3,4,7,8]) (L := []) hm (by kernel_rfl) (fun R h => h) (by kernel_rfl)
theorem g_mwalk : SOk prg 119 (B_mwalk I) := (show (dp 96 x119 r119 [0,1,2]) = B_mwalk I by kernel_rfl) ▸ s119
theorem g_leads : SOk prg 69 (B_leads I) := (show (dp 38 x69 r69 [0,1,2,3]) = B_leads I by kernel_rfl) ▸ s69
theorem g_Begins : SOk prg 37 (B_Begins I) := (show (dp 11 x37 r37 [0,1,2]) = B_Begins I by kernel_rfl) ▸ s37
theorem g_Ends : SOk prg 38 (B_Ends I) := (show (dp 11 x38 r38 [0,1,2]) = B_Ends I by kernel_rfl) ▸ s38
theorem g_why : SOk prg 17 (B_why I) := (show (dp 38 x17 r17 [0,1,2]) = B_why I by kernel_rfl) ▸ s17
theorem g_Skipped : SOk prg 41 (B_Skipped I) := (show (dp 19 x41 r41 [0,1,2]) = B_Skipped I by kernel_rfl) ▸ s41
theorem g_CFS : SOk prg 70 (B_CFS I) := (show (dp 9 x70 r70 [0,1]) = B_CFS I by kernel_rfl) ▸ s70
theorem g_IFS : SOk prg 121 (B_IFS I) := (show (dp 19 x121 r121 [0,1]) = B_IFS I by kernel_rfl) ▸ s121
theorem g_cuts : SOk prg 19 (B_cuts I) := (show (dp 6 x19 r19 [0,1]) = B_cuts I by kernel_rfl) ▸ s19
theorem g_cuts1 : SOk prg 40 (B_cuts1 I) := (show (dp 46 x40 r40 [0,1,2]) = B_cuts1 I by kernel_rfl) ▸ s40
theorem g_Cuts : SOk prg 10 (B_Cuts I) := (show (dp 12 x10 r10 [0,1]) = B_Cuts I by kernel_rfl) ▸ s10
theorem g_CollectI : SOk prg 18 (B_CollectI I) := (show (dp 5 x18 r18 [0]) = B_CollectI I by kernel_rfl) ▸ s18
theorem g_AppSeqI : SOk prg 39 (B_AppSeqI I) := (show (dp 13 x39 r39 [0,1]) = B_AppSeqI I by kernel_rfl) ▸ s39
theorem gc0_AppSeqI : COk prg 8 13 (C0_AppSeqI I) := COk.of (Rk := fun R => R) (x := t8) (A := [2,7]) (L := [2,5]) hm (by kernel_rfl) (fun R h => h) (by kernel_rfl)
theorem gc1_AppSeqI : COk prg 9 13 (C1_AppSeqI I) := COk.of (Rk := fun R => R) (x := t9) (A := [2,5]) (L := []) hm (by kernel_rfl) (fun R h => h) (by kernel_rfl)
theorem g_DecRune : SOk prg 64 (B_DecRune I) := (show (dp 22 x64 r64 [0]) = B_DecRune I by kernel_rfl) ▸ s64
theorem g_DecSlow : SOk prg 114 (B_DecSlow I) := (show (dp 122 x114 r114 [0]) = B_DecSlow I by kernel_rfl) ▸ s114
theorem g_steps : SOk prg 28 (B_steps I) := (show (dp 4 x28 r28 [0]) = B_steps I by kernel_rfl) ▸ s28
theorem g_steps1 : SOk prg 63 (B_steps1 I) := (show (dp 32 x63 r63 [0,1]) = B_steps1 I by kernel_rfl) ▸ s63
theorem g_Runes : SOk prg 14 (B_Runes I) := (show (dp 22 x14 r14 [0]) = B_Runes I by kernel_rfl) ▸ s14
theorem gc0_Runes : COk prg 4 22 (C0_Runes I) := COk.of (Rk := fun R => R) (x := t4) (A := [4,5,9]) (L := [4,5,6]) hm (by kernel_rfl) (fun R h => h) (by kernel_rfl)
theorem gc1_Runes : COk prg 5 22 (C1_Runes I) := COk.of (Rk := fun R => R) (x := t5) (A := [4,5,6]) (L := []) hm (by kernel_rfl) (fun R h => h) (by kernel_rfl)
theorem g_At : SOk prg 15 (B_At I) := (show (dp 26 x15 r15 [0,1,2]) = B_At I by kernel_rfl) ▸ s15
theorem g_Bytes17 : SOk prg 7 (B_Bytes17 I) := (show (dp 35 x7 r7 [0,1]) = B_Bytes17 I by kernel_rfl) ▸ s7
theorem g_rone : SOk prg 13 (B_rone I) := (show (dp 89 x13 r13 [0]) = B_rone I by kernel_rfl) ▸ s13
theorem g_rRunes : SOk prg 6 (B_rRunes I) := (show (dp 38 x6 r6 [0]) = B_rRunes I by kernel_rfl) ▸ s6
theorem g_LBare : SOk prg 3 (B_LBare I) := (show (dp 107 x3 r3 [0,1]) = B_LBare I by kernel_rfl) ▸ s3
end Tb
