import Derived.Test.YtkmpehlhplhnhaaGreatDoorQ2
set_option autoImplicit false
set_option maxRecDepth 100000
set_option linter.unusedVariables false
namespace Tb
open Go Hb
noncomputable def rv0 : AV := .ns
noncomputable def sk0 : AV := .ns
theorem hk0 : encS.decS sk0 = some [] := by kernel_rfl
theorem hbk0 : isC L_mi [rv0,sk0] = true := by kernel_rfl
noncomputable def rv1 : AV := .sl 12 1 [.i .i64 7,.b false,.i .i64 3,.i .i64 0,.ns,.s [],.ns,.i .i64 3,.i .i64 0,.ns,.s [],.ns]
noncomputable def sk1 : AV := .ns
theorem hk1 : encS.decS sk1 = some [] := by kernel_rfl
theorem hbk1 : isC L_mi [rv1,sk1] = true := by kernel_rfl
theorem hr0 : encRule.decS rv0 = some [] := by kernel_rfl
theorem hr1 : encRule.decS rv1 = some noneRs := by kernel_rfl
theorem hok1 : rulesOk (isC L_is) noneRs = true := by kernel_rfl
theorem law_bare {l : List Int} {v : AV} (hv : (encI .u8).decS v = some l) (hl8 : ∀ x ∈ l, 0 ≤ x ∧ x ≤ 255) (b : Bool) : ACall prg 3 [v,.b b] ([],0) fun x _ => x = .b true := by
  obtain ⟨s, h⟩ := LBare_c I (isC L_is) (isC L_mi) (R := run T_law U_law 1) (none := b) (rv0 := rv0) (sk0 := sk0) (rv1 := rv1) (sk1 := sk1) (fun s => constOv_c (L := L_known) (R := run T_law U_law 0) (args := []) (s := s) (v := .b true) (by kernel_rfl)) (fun s => constOv_c (L := L_book) (R := run T_law U_law 0) (args := [.s []]) (s := s) (v := .tup [.agg [rv0,sk0],.b true]) (by kernel_rfl)) (fun s => constOv_c (L := L_book) (R := run T_law U_law 0) (args := [.s [55,58,32,62,60]]) (s := s) (v := .tup [.agg [rv1,sk1],.b true]) (by kernel_rfl)) hr0 hk0 hbk0 hr1 hk1 hbk1 hok1 (fun _ _ => rfl) (fun _ _ => rfl) hv hl8
  have := g_LBare _ (hR_law 1) _ _ _ h
  rw [S_st] at this
  refine this.mono fun x σ ⟨s1, h1, h2⟩ => ?_
  exact (Ans.ret.inj h1).1
end Tb
