import Derived.Test.YtmjcgaaeejpkgaaGreatDoorAll
import Derived.Test.YtmjcgaaeejpkgaaGreatDoorH15
set_option autoImplicit false
set_option maxRecDepth 100000
set_option linter.unusedVariables false
namespace Tb
open Go Hb
noncomputable def nth {α : Type} (l : List α) (d : α) (n : Nat) : α := List.rec (motive := fun _ => Nat → α) (fun _ => d) (fun a _ ih n => Nat.rec (motive := fun _ => α) a (fun m _ => ih m) n) l n
noncomputable def I : Ids := ⟨nth [186,246,247,266,117,119,208,209,161,118,158,159,160,14,116,69,38,39,66,67,17,68,36,16,37,15,13,35,115,7,6,5,8] 0,nth [122,21,174,4,75,176,78,80,27,30,3,5,31] 0,nth [.tag 16 t16,.tag 17 t17,.tag 8 t8,.tag 9 t9] .skip⟩
theorem hG : GlobClo prg := fun g cs h => (cloBL_iff cs).1 (by
  have h : cond (Nat.beq g 0) (some gl0) (cond (Nat.beq g 1) (some gl1) (cond (Nat.beq g 8) (some gl8) (none))) = some cs := h
  cases h0 : Nat.beq g 0 with
  | true => rw [h0] at h; cases h; exact (show cloBL gl0 = true by kernel_rfl)
  | false =>
  rw [h0] at h
  cases h1 : Nat.beq g 1 with
  | true => rw [h1] at h; cases h; exact (show cloBL gl1 = true by kernel_rfl)
  | false =>
  rw [h1] at h
  cases h2 : Nat.beq g 8 with
  | true => rw [h2] at h; cases h; exact (show cloBL gl8 = true by kernel_rfl)
  | false =>
  rw [h2] at h
  cases h)
theorem g_right : SOk prg 186 (B_right I) := (show (dp 18 x186 r186 [0]) = B_right I by kernel_rfl) ▸ s186
theorem g_Has1 : SOk prg 247 (B_Has1 I) := (show (dp 18 x247 r247 [0,1]) = B_Has1 I by kernel_rfl) ▸ s247
theorem g_CFR : SOk prg 246 (B_CFR I) := (show (dp 9 x246 r246 [0,1]) = B_CFR I by kernel_rfl) ▸ s246
theorem g_IFR : SOk prg 266 (B_IFR I) := (show (dp 19 x266 r266 [0,1]) = B_IFR I by kernel_rfl) ▸ s266
theorem g_Has : SOk prg 209 (B_Has I) := (show (dp 8 x209 r209 [0,1]) = B_Has I by kernel_rfl) ▸ s209
theorem g_mstep : SOk prg 208 (B_mstep I) := (show (dp 31 x208 r208 [0,1]) = B_mstep I by kernel_rfl) ▸ s208
theorem g_mnone : SOk prg 117 (B_mnone I) := (show (dp 8 x117 r117 [0]) = B_mnone I by kernel_rfl) ▸ s117
theorem g_mall : SOk prg 119 (B_mall I) := (show (dp 4 x119 r119 [0]) = B_mall I by kernel_rfl) ▸ s119
theorem g_mall1 : SOk prg 161 (B_mall1 I) := (show (dp 20 x161 r161 [0,1]) = B_mall1 I by kernel_rfl) ▸ s161
theorem g_mone : SOk prg 158 (B_mone I) := (show (dp 34 x158 r158 [0,1,2]) = B_mone I by kernel_rfl) ▸ s158
theorem gc0_mone : COk prg 16 34 (C0_mone I) := COk.of (Rk := fun R => R) (x := t16) (A := [3,4,7,16]) (L := [3,4,7,8]) hm (by kernel_rfl) (fun R h => h) (by kernel_rfl)
theorem gc1_mone : COk prg 17 34 (C1_mone I) := COk.of (Rk := fun R => R) (x := t17) (A := [3,4,7,8]) (L := []) hm (by kernel_rfl) (fun R h => h) (by kernel_rfl)
theorem g_mwalk : SOk prg 118 (B_mwalk I) := (show (dp 96 x118 r118 [0,1,2]) = B_mwalk I by kernel_rfl) ▸ s118
theorem g_leads : SOk prg 69 (B_leads I) := (show (dp 38 x69 r69 [0,1,2,3]) = B_leads I by kernel_rfl) ▸ s69
theorem g_Begins : SOk prg 38 (B_Begins I) := (show (dp 11 x38 r38 [0,1,2]) = B_Begins I by kernel_rfl) ▸ s38
theorem g_Ends : SOk prg 39 (B_Ends I) := (show (dp 11 x39 r39 [0,1,2]) = B_Ends I by kernel_rfl) ▸ s39
theorem g_why : SOk prg 16 (B_why I) := (show (dp 38 x16 r16 [0,1,2]) = B_why I by kernel_rfl) ▸ s16
theorem g_Skipped : SOk prg 37 (B_Skipped I) := (show (dp 19 x37 r37 [0,1,2]) = B_Skipped I by kernel_rfl) ▸ s37
theorem g_CFS : SOk prg 66 (B_CFS I) := (show (dp 9 x66 r66 [0,1]) = B_CFS I by kernel_rfl) ▸ s66
theorem g_IFS : SOk prg 115 (B_IFS I) := (show (dp 19 x115 r115 [0,1]) = B_IFS I by kernel_rfl) ▸ s115
theorem g_cuts : SOk prg 15 (B_cuts I) := (show (dp 6 x15 r15 [0,1]) = B_cuts I by kernel_rfl) ▸ s15
theorem g_cuts1 : SOk prg 36 (B_cuts1 I) := (show (dp 46 x36 r36 [0,1,2]) = B_cuts1 I by kernel_rfl) ▸ s36
theorem g_Cuts : SOk prg 7 (B_Cuts I) := (show (dp 12 x7 r7 [0,1]) = B_Cuts I by kernel_rfl) ▸ s7
theorem g_CollectI : SOk prg 14 (B_CollectI I) := (show (dp 5 x14 r14 [0]) = B_CollectI I by kernel_rfl) ▸ s14
theorem g_AppSeqI : SOk prg 35 (B_AppSeqI I) := (show (dp 13 x35 r35 [0,1]) = B_AppSeqI I by kernel_rfl) ▸ s35
theorem gc0_AppSeqI : COk prg 8 13 (C0_AppSeqI I) := COk.of (Rk := fun R => R) (x := t8) (A := [2,7]) (L := [2,5]) hm (by kernel_rfl) (fun R h => h) (by kernel_rfl)
theorem gc1_AppSeqI : COk prg 9 13 (C1_AppSeqI I) := COk.of (Rk := fun R => R) (x := t9) (A := [2,5]) (L := []) hm (by kernel_rfl) (fun R h => h) (by kernel_rfl)
theorem g_ints17 : SOk prg 8 (B_ints17 I) := (show (dp 26 x8 r8 [0,1]) = B_ints17 I by kernel_rfl) ▸ s8
theorem g_LWords : SOk prg 3 (B_LWords I) := (show (dp 71 x3 r3 [0]) = B_LWords I by kernel_rfl) ▸ s3
theorem g_LCut : SOk prg 4 (B_LCut I) := (show (dp 97 x4 r4 [0,1]) = B_LCut I by kernel_rfl) ▸ s4
end Tb
