import Derived.Test.YtmjcgaaeejpkgaaGreatDoorQ2
set_option autoImplicit false
set_option maxRecDepth 100000
set_option linter.unusedVariables false
namespace Tb
open Go Hb
noncomputable def rvW : AV := .sl 12 2 [.i .i64 1,.b false,.i .i64 1,.i .i64 0,.sl 2 6 [.i .i32 65,.i .i32 90,.i .i32 97,.i .i32 122,.i .i32 192,.i .i32 214,.i .i32 216,.i .i32 246,.i .i32 248,.i .i32 255,.i .i32 880,.i .i32 1327],.s [],.ns,.i .i64 1,.i .i64 0,.sl 2 6 [.i .i32 65,.i .i32 90,.i .i32 97,.i .i32 122,.i .i32 192,.i .i32 214,.i .i32 216,.i .i32 246,.i .i32 248,.i .i32 255,.i .i32 880,.i .i32 1327],.s [],.ns,.i .i64 2,.b false,.i .i64 1,.i .i64 0,.sl 2 7 [.i .i32 9,.i .i32 13,.i .i32 32,.i .i32 32,.i .i32 133,.i .i32 133,.i .i32 160,.i .i32 160,.i .i32 8192,.i .i32 8202,.i .i32 8232,.i .i32 8233,.i .i32 12288,.i .i32 12288],.s [],.ns,.i .i64 1,.i .i64 0,.sl 2 7 [.i .i32 9,.i .i32 13,.i .i32 32,.i .i32 32,.i .i32 133,.i .i32 133,.i .i32 160,.i .i32 160,.i .i32 8192,.i .i32 8202,.i .i32 8232,.i .i32 8233,.i .i32 12288,.i .i32 12288],.s [],.ns]
noncomputable def skW : AV := .ns
theorem hkW : encS.decS skW = some [] := by kernel_rfl
theorem hbkW : isC L_mi [rvW,skW] = true := by kernel_rfl
noncomputable def rvC : AV := .sl 12 4 [.i .i64 1,.b false,.i .i64 1,.i .i64 0,.sl 2 6 [.i .i32 65,.i .i32 90,.i .i32 97,.i .i32 122,.i .i32 192,.i .i32 214,.i .i32 216,.i .i32 246,.i .i32 248,.i .i32 255,.i .i32 880,.i .i32 1327],.s [],.ns,.i .i64 1,.i .i64 0,.sl 2 6 [.i .i32 65,.i .i32 90,.i .i32 97,.i .i32 122,.i .i32 192,.i .i32 214,.i .i32 216,.i .i32 246,.i .i32 248,.i .i32 255,.i .i32 880,.i .i32 1327],.s [],.ns,.i .i64 2,.b false,.i .i64 1,.i .i64 0,.sl 2 2 [.i .i32 48,.i .i32 57,.i .i32 1632,.i .i32 1641],.s [],.ns,.i .i64 1,.i .i64 0,.sl 2 2 [.i .i32 48,.i .i32 57,.i .i32 1632,.i .i32 1641],.s [],.ns,.i .i64 3,.b false,.i .i64 1,.i .i64 0,.sl 2 1 [.i .i32 0,.i .i32 1114111],.s [],.ns,.i .i64 1,.i .i64 0,.sl 2 3 [.i .i32 768,.i .i32 879,.i .i32 8205,.i .i32 8205,.i .i32 65024,.i .i32 65039],.s [],.ns,.i .i64 4,.b false,.i .i64 1,.i .i64 0,.sl 2 5 [.i .i32 33,.i .i32 47,.i .i32 58,.i .i32 64,.i .i32 91,.i .i32 96,.i .i32 123,.i .i32 126,.i .i32 8208,.i .i32 8231],.s [],.ns,.i .i64 1,.i .i64 0,.sl 2 7 [.i .i32 9,.i .i32 13,.i .i32 32,.i .i32 32,.i .i32 133,.i .i32 133,.i .i32 160,.i .i32 160,.i .i32 8192,.i .i32 8202,.i .i32 8232,.i .i32 8233,.i .i32 12288,.i .i32 12288],.s [],.ns]
noncomputable def skC : AV := .ns
theorem hkC : encS.decS skC = some [] := by kernel_rfl
theorem hbkC : isC L_mi [rvC,skC] = true := by kernel_rfl
theorem hrW : encRule.decS rvW = some wordsRs := by kernel_rfl
theorem hokW : rulesOk (isC L_is) wordsRs = true := by kernel_rfl
noncomputable def rsC : List RuleV := (encRule.decS rvC).getD []
theorem hrC : encRule.decS rvC = some rsC := by kernel_rfl
theorem hokC : rulesOk (isC L_is) rsC = true := by kernel_rfl
theorem hrlC : rsC.length < 1000 := Nat.le_of_ble_eq_true (by kernel_rfl)
theorem havC : avEq (.agg [rvC,skC]) (.agg [rvC,skC]) = true := by kernel_rfl
theorem law_words {l : List Int} {v : AV} (hv : (encI .u8).decS v = some l) (hl8 : ∀ x ∈ l, 0 ≤ x ∧ x ≤ 255) : ACall prg 3 [v] ([],0) fun x _ => x = .b true := by
  obtain ⟨s, h⟩ := LWords_c I (isC L_is) (isC L_mi) (R := run T_law U_law 1) (rv := rvW) (sk := skW) (fun s => constOv_c (L := L_known) (R := run T_law U_law 0) (args := []) (s := s) (v := .b true) (by kernel_rfl)) (fun s => constOv_c (L := L_book) (R := run T_law U_law 0) (args := [.s [49,58,32,123,76,101,116,116,101,114,125,32,62,60,32,123,76,101,116,116,101,114,125,10,50,58,32,123,83,112,97,99,101,125,32,62,60,32,123,83,112,97,99,101,125,10]]) (s := s) (v := .tup [.agg [rvW,skW],.b true]) (by kernel_rfl)) hrW hkW hbkW hokW (fun _ _ => rfl) hv hl8
  have := g_LWords _ (hR_law 1) _ _ _ h
  rw [S_st] at this
  refine this.mono fun x σ ⟨s1, h1, h2⟩ => ?_
  exact (Ans.ret.inj h1).1
theorem law_cut {l : List Int} {v : AV} (hv : (encI .u8).decS v = some l) (hl8 : ∀ x ∈ l, 0 ≤ x ∧ x ≤ 255) {z : Int} (hz : 0 ≤ z ∧ z ≤ 255) : ACall prg 4 [v,.i .u8 z] ([],0) fun x _ => x = .b true := by
  obtain ⟨s, h⟩ := LCut_c I (isC L_is) (isC L_mi) (R := run T_law U_law 1) (rv := rvC) (sk := skC) (fun s => constOv_c (L := L_known) (R := run T_law U_law 0) (args := []) (s := s) (v := .b true) (by kernel_rfl)) (fun s => constOv_c (L := L_book) (R := run T_law U_law 0) (args := [.s [49,58,32,123,76,101,116,116,101,114,125,32,62,60,32,123,76,101,116,116,101,114,125,10,50,58,32,123,68,105,103,105,116,125,32,62,60,32,123,68,105,103,105,116,125,10,51,58,32,46,32,62,60,32,123,77,97,114,107,125,10,52,58,32,123,80,117,110,99,116,125,32,62,60,32,123,83,112,97,99,101,125,10]]) (s := s) (v := .tup [.agg [rvC,skC],.b true]) (by kernel_rfl)) hrC hkC hbkC hokC hrlC havC (fun _ _ => rfl) (fun _ _ => rfl) hv hl8 hz
  have := g_LCut _ (hR_law 1) _ _ _ h
  rw [S_st] at this
  refine this.mono fun x σ ⟨s1, h1, h2⟩ => ?_
  exact (Ans.ret.inj h1).1
end Tb
