/- A layer for programs of small data: values, stores, code, and an evaluator of code that the kernel runs; part 12. -/
import Derived.Test.YtmjcgaaeejpkgaaGreatDoorH11

section
set_option linter.unusedVariables false
set_option linter.unusedSimpArgs false
set_option linter.constructorNameAsVariable false
set_option autoImplicit false
set_option linter.unusedVariables false
set_option linter.unusedSimpArgs false
namespace Hb
open Go
def rightP (a b : Int) : Bool := decide (0 ≤ a) && (decide (a ≤ b) && decide (b ≤ 1114111))
def rightF : List AV → Option AV
  | [.agg [.i .i32 a, .i .i32 b]] => some (.b (rightP a b))
  | _ => none
theorem right_c (I : Ids) (R : Rec) (as : List AV) (v : AV) (h : rightF as = some v) : Tot (fun v0 s0 => ∃ v', Inl Fla s0.st.1 v0 v' ∧ v' = v) (B_right I R as (S [] 0)) := by
  unfold rightF at h
  split at h
  case h_2 => cases h
  rename_i a b
  cases h
  have : B_right I R [.agg [.i .i32 a, .i .i32 b]] (S [] 0) = some (.ret (.b (rightP a b)) (S [some (.cells 0 false (I.t 0) 0 [.i .i32 a, .i .i32 b])] 1)) := by
    unfold B_right rightP
    rw [args1, pBox_S (AV.cells_agg _) (by simp)]
    simp only [args0, args1, args2, args3, args4, jn_d, jv_d, jr_d, callK_ret, eCond_b, eGuard_b, pPick_b, pUn_not, eLeave_nil, bAdd_i, bSub_i, bMul_i, bQuo_i, bRem_i, bEql_i, bNeq_i, bLss_i, bLeq_i, bGtr_i, bGeq_i, bEql_s, bNeq_s, bLss_s, pInt_i, pLen_s, pLen_sl, pLen_gr, pLen_ns, pLen_sz, pBuild_d, fillK_nil, cond_true, cond_false, Bool.not_true, Bool.not_false, Bool.cond_self, List.length_nil, List.length_cons, List.nil_append, List.cons_append, List.append_nil, List.append_assoc, List.length_append, List.getElem?_cons_zero, List.getElem?_cons_succ, List.drop_succ_cons, List.drop_zero, List.drop_nil, List.take_succ_cons, List.take_zero, List.take_nil, List.set_cons_zero, List.set_cons_succ, Nat.zero_add, Nat.add_zero, Nat.zero_mul, Nat.mul_one, Nat.one_mul, Nat.reduceAdd, Nat.reduceMul, Nat.reduceSub, kont_v, AV.cells_i, AV.cells_s, AV.cells_b, AV.cells_agg, AV.cells_sl]
    have hb : ([some (.cells 0 false (I.t 0) 0 [.i .i32 a, .i .i32 b])] : List (Option Blk))[0]? = some (some (.cells 0 false (I.t 0) 0 [.i .i32 a, .i .i32 b])) := rfl
    simp (disch := simp) only [args0, args1, args2, args3, args4, jn_d, jv_d, jr_d, callK_ret, eCond_b, eGuard_b, pPick_b, pUn_not, eLeave_nil, bAdd_i, bSub_i, bMul_i, bQuo_i, bRem_i, bEql_i, bNeq_i, bLss_i, bLeq_i, bGtr_i, bGeq_i, bEql_s, bNeq_s, bLss_s, pInt_i, pLen_s, pLen_sl, pLen_gr, pLen_ns, pLen_sz, pBuild_d, fillK_nil, cond_true, cond_false, Bool.not_true, Bool.not_false, Bool.cond_self, List.length_nil, List.length_cons, List.nil_append, List.cons_append, List.append_nil, List.append_assoc, List.length_append, List.getElem?_cons_zero, List.getElem?_cons_succ, List.drop_succ_cons, List.drop_zero, List.drop_nil, List.take_succ_cons, List.take_zero, List.take_nil, List.set_cons_zero, List.set_cons_succ, Nat.zero_add, Nat.add_zero, Nat.zero_mul, Nat.mul_one, Nat.one_mul, Nat.reduceAdd, Nat.reduceMul, Nat.reduceSub, kont_v, AV.cells_i, AV.cells_s, AV.cells_b, AV.cells_agg, AV.cells_sl, pFadr_p hb rfl, pLoad_Sf hb rfl]
    cases decide (0 ≤ a) <;> simp (disch := simp) only [args0, args1, args2, args3, args4, jn_d, jv_d, jr_d, callK_ret, eCond_b, eGuard_b, pPick_b, pUn_not, eLeave_nil, bAdd_i, bSub_i, bMul_i, bQuo_i, bRem_i, bEql_i, bNeq_i, bLss_i, bLeq_i, bGtr_i, bGeq_i, bEql_s, bNeq_s, bLss_s, pInt_i, pLen_s, pLen_sl, pLen_gr, pLen_ns, pLen_sz, pBuild_d, fillK_nil, cond_true, cond_false, Bool.not_true, Bool.not_false, Bool.cond_self, List.length_nil, List.length_cons, List.nil_append, List.cons_append, List.append_nil, List.append_assoc, List.length_append, List.getElem?_cons_zero, List.getElem?_cons_succ, List.drop_succ_cons, List.drop_zero, List.drop_nil, List.take_succ_cons, List.take_zero, List.take_nil, List.set_cons_zero, List.set_cons_succ, Nat.zero_add, Nat.add_zero, Nat.zero_mul, Nat.mul_one, Nat.one_mul, Nat.reduceAdd, Nat.reduceMul, Nat.reduceSub, kont_v, AV.cells_i, AV.cells_s, AV.cells_b, AV.cells_agg, AV.cells_sl, pFadr_p hb rfl, pLoad_Sf hb rfl]
    · simp
    · cases decide (a ≤ b) <;> simp (disch := simp) only [args0, args1, args2, args3, args4, jn_d, jv_d, jr_d, callK_ret, eCond_b, eGuard_b, pPick_b, pUn_not, eLeave_nil, bAdd_i, bSub_i, bMul_i, bQuo_i, bRem_i, bEql_i, bNeq_i, bLss_i, bLeq_i, bGtr_i, bGeq_i, bEql_s, bNeq_s, bLss_s, pInt_i, pLen_s, pLen_sl, pLen_gr, pLen_ns, pLen_sz, pBuild_d, fillK_nil, cond_true, cond_false, Bool.not_true, Bool.not_false, Bool.cond_self, List.length_nil, List.length_cons, List.nil_append, List.cons_append, List.append_nil, List.append_assoc, List.length_append, List.getElem?_cons_zero, List.getElem?_cons_succ, List.drop_succ_cons, List.drop_zero, List.drop_nil, List.take_succ_cons, List.take_zero, List.take_nil, List.set_cons_zero, List.set_cons_succ, Nat.zero_add, Nat.add_zero, Nat.zero_mul, Nat.mul_one, Nat.one_mul, Nat.reduceAdd, Nat.reduceMul, Nat.reduceSub, kont_v, AV.cells_i, AV.cells_s, AV.cells_b, AV.cells_agg, AV.cells_sl, pFadr_p hb rfl, pLoad_Sf hb rfl]
      · simp
      · cases decide (b ≤ 1114111) <;> simp
  rw [this]
  exact Tot.ret ⟨_, .clo _ (by simp only [Fla]), rfl⟩
def has1P (p : Int × Int) (r : Int) : Bool := rightP p.1 p.2 && (decide (p.1 ≤ r) && decide (r ≤ p.2))
def has1F : List AV → Option AV
  | [.agg [.i .i32 a, .i .i32 b], .pe [.i .i32 r] 1 0 0] => some (.b (has1P (a, b) r))
  | _ => none
theorem has1_c (I : Ids) (R : Rec) (hR : ∀ args s, R.f (I.f 0) args s = flatOv rightF R args s) (as : List AV) (v : AV) (h : has1F as = some v) : Tot (fun v0 s0 => ∃ v', Inl Fla s0.st.1 v0 v' ∧ v' = v) (B_Has1 I R as (S [] 0)) := by
  unfold has1F at h
  split at h
  case h_2 => cases h
  rename_i a b r
  cases h
  have : B_Has1 I R [.agg [.i .i32 a, .i .i32 b], .pe [.i .i32 r] 1 0 0] (S [] 0) = some (.ret (.b (has1P (a, b) r)) (S [some (.cells 0 false (I.t 0) 0 [.i .i32 a, .i .i32 b])] 1)) := by
    unfold B_Has1 has1P
    rw [args2, pBox_S (AV.cells_agg _) (by simp)]
    simp only [args0, args1, args2, args3, args4, jn_d, jv_d, jr_d, callK_ret, eCond_b, eGuard_b, pPick_b, pUn_not, eLeave_nil, bAdd_i, bSub_i, bMul_i, bQuo_i, bRem_i, bEql_i, bNeq_i, bLss_i, bLeq_i, bGtr_i, bGeq_i, bEql_s, bNeq_s, bLss_s, pInt_i, pLen_s, pLen_sl, pLen_gr, pLen_ns, pLen_sz, pBuild_d, fillK_nil, cond_true, cond_false, Bool.not_true, Bool.not_false, Bool.cond_self, List.length_nil, List.length_cons, List.nil_append, List.cons_append, List.append_nil, List.append_assoc, List.length_append, List.getElem?_cons_zero, List.getElem?_cons_succ, List.drop_succ_cons, List.drop_zero, List.drop_nil, List.take_succ_cons, List.take_zero, List.take_nil, List.set_cons_zero, List.set_cons_succ, Nat.zero_add, Nat.add_zero, Nat.zero_mul, Nat.mul_one, Nat.one_mul, Nat.reduceAdd, Nat.reduceMul, Nat.reduceSub, kont_v, AV.cells_i, AV.cells_s, AV.cells_b, AV.cells_agg, AV.cells_sl]
    have hb : ([some (.cells 0 false (I.t 0) 0 [.i .i32 a, .i .i32 b])] : List (Option Blk))[0]? = some (some (.cells 0 false (I.t 0) 0 [.i .i32 a, .i .i32 b])) := rfl
    have hr : ∀ s, R.f (I.f 0) [.agg [.i .i32 a, .i .i32 b]] s = some (.ret (.b (rightP a b)) s) := fun s => by
      rw [hR]; exact flatOv_c (by simp only [CloL, Clo, and_self]) rfl
    simp (disch := simp) only [args0, args1, args2, args3, args4, jn_d, jv_d, jr_d, callK_ret, eCond_b, eGuard_b, pPick_b, pUn_not, eLeave_nil, bAdd_i, bSub_i, bMul_i, bQuo_i, bRem_i, bEql_i, bNeq_i, bLss_i, bLeq_i, bGtr_i, bGeq_i, bEql_s, bNeq_s, bLss_s, pInt_i, pLen_s, pLen_sl, pLen_gr, pLen_ns, pLen_sz, pBuild_d, fillK_nil, cond_true, cond_false, Bool.not_true, Bool.not_false, Bool.cond_self, List.length_nil, List.length_cons, List.nil_append, List.cons_append, List.append_nil, List.append_assoc, List.length_append, List.getElem?_cons_zero, List.getElem?_cons_succ, List.drop_succ_cons, List.drop_zero, List.drop_nil, List.take_succ_cons, List.take_zero, List.take_nil, List.set_cons_zero, List.set_cons_succ, Nat.zero_add, Nat.add_zero, Nat.zero_mul, Nat.mul_one, Nat.one_mul, Nat.reduceAdd, Nat.reduceMul, Nat.reduceSub, kont_v, AV.cells_i, AV.cells_s, AV.cells_b, AV.cells_agg, AV.cells_sl, pFadr_p hb rfl, pLoad_Sf hb rfl, pLoad_St hb rfl, hr, pLoad_pe, loadK_fm]
    cases rightP a b <;> simp (disch := simp) only [args0, args1, args2, args3, args4, jn_d, jv_d, jr_d, callK_ret, eCond_b, eGuard_b, pPick_b, pUn_not, eLeave_nil, bAdd_i, bSub_i, bMul_i, bQuo_i, bRem_i, bEql_i, bNeq_i, bLss_i, bLeq_i, bGtr_i, bGeq_i, bEql_s, bNeq_s, bLss_s, pInt_i, pLen_s, pLen_sl, pLen_gr, pLen_ns, pLen_sz, pBuild_d, fillK_nil, cond_true, cond_false, Bool.not_true, Bool.not_false, Bool.cond_self, List.length_nil, List.length_cons, List.nil_append, List.cons_append, List.append_nil, List.append_assoc, List.length_append, List.getElem?_cons_zero, List.getElem?_cons_succ, List.drop_succ_cons, List.drop_zero, List.drop_nil, List.take_succ_cons, List.take_zero, List.take_nil, List.set_cons_zero, List.set_cons_succ, Nat.zero_add, Nat.add_zero, Nat.zero_mul, Nat.mul_one, Nat.one_mul, Nat.reduceAdd, Nat.reduceMul, Nat.reduceSub, kont_v, AV.cells_i, AV.cells_s, AV.cells_b, AV.cells_agg, AV.cells_sl, pFadr_p hb rfl, pLoad_Sf hb rfl, pLoad_pe, loadK_fm]
    · simp
    · cases decide (a ≤ r) <;> simp (disch := simp) only [args0, args1, args2, args3, args4, jn_d, jv_d, jr_d, callK_ret, eCond_b, eGuard_b, pPick_b, pUn_not, eLeave_nil, bAdd_i, bSub_i, bMul_i, bQuo_i, bRem_i, bEql_i, bNeq_i, bLss_i, bLeq_i, bGtr_i, bGeq_i, bEql_s, bNeq_s, bLss_s, pInt_i, pLen_s, pLen_sl, pLen_gr, pLen_ns, pLen_sz, pBuild_d, fillK_nil, cond_true, cond_false, Bool.not_true, Bool.not_false, Bool.cond_self, List.length_nil, List.length_cons, List.nil_append, List.cons_append, List.append_nil, List.append_assoc, List.length_append, List.getElem?_cons_zero, List.getElem?_cons_succ, List.drop_succ_cons, List.drop_zero, List.drop_nil, List.take_succ_cons, List.take_zero, List.take_nil, List.set_cons_zero, List.set_cons_succ, Nat.zero_add, Nat.add_zero, Nat.zero_mul, Nat.mul_one, Nat.one_mul, Nat.reduceAdd, Nat.reduceMul, Nat.reduceSub, kont_v, AV.cells_i, AV.cells_s, AV.cells_b, AV.cells_agg, AV.cells_sl, pFadr_p hb rfl, pLoad_Sf hb rfl, pLoad_pe, loadK_fm]
      · simp
      · cases decide (r ≤ b) <;> simp
  rw [this]
  exact Tot.ret ⟨_, .clo _ (by simp only [Fla]), rfl⟩
theorem IFR_run (I : Ids) (R : Rec) {g : Nat} {caps : List AV} {p : Int × Int → Bool} {l : List (Int × Int)} {v : AV} {s : ES} (hv : encRange.decS v = some l) (hl : l.length < 30000)
    (hg : ∀ x ∈ l, R.g g (.agg [.i .i32 x.1, .i .i32 x.2] :: caps) s = some (.ret (.b (p x)) s)) : B_IFR I R [v, .fn (.func g) [] caps] s = some (.ret (.i .i64 (idxP p l 0)) s) := by
  unfold B_IFR
  simp only [args0, args1, args2, args3, args4, jn_d, jv_d, jr_d, callK_ret, eCond_b, eGuard_b, pPick_b, pUn_not, eLeave_nil, bAdd_i, bSub_i, bMul_i, bQuo_i, bRem_i, bEql_i, bNeq_i, bLss_i, bLeq_i, bGtr_i, bGeq_i, bEql_s, bNeq_s, bLss_s, pInt_i, pLen_s, pLen_sl, pLen_gr, pLen_ns, pLen_sz, pBuild_d, fillK_nil, cond_true, cond_false, Bool.not_true, Bool.not_false, Bool.cond_self, List.length_nil, List.length_cons, List.nil_append, List.cons_append, List.append_nil, List.append_assoc, List.length_append, List.getElem?_cons_zero, List.getElem?_cons_succ, List.drop_succ_cons, List.drop_zero, List.drop_nil, List.take_succ_cons, List.take_zero, List.take_nil, List.set_cons_zero, List.set_cons_succ, Nat.zero_add, Nat.add_zero, Nat.zero_mul, Nat.mul_one, Nat.one_mul, Nat.reduceAdd, Nat.reduceMul, Nat.reduceSub, kont_v, AV.cells_i, AV.cells_s, AV.cells_b, AV.cells_agg, AV.cells_sl, encRange.pLen_v hv]
  have key : ∀ (m : List (Int × Int)) (i fuel : Nat), m = l.drop i → i + m.length = l.length → m.length < fuel →
      lp [8] fuel (B_IFRl4 I R (.i .i64 (l.length : Nat)) v (.fn (.func g) [] caps) (B_IFRj1 I R)) (.i .i64 (i : Nat)) [] s = some (.ret (.i .i64 (idxP p m i)) s) := by
    intro m
    induction m with
    | nil =>
      intro i fuel he hi hf
      cases fuel with
      | zero => omega
      | succ f =>
        simp only [List.length_nil] at hi
        rw [lp_s]
        unfold B_IFRl4 B_IFRj1
        have : decide ((i : Int) < (l.length : Int)) = false := by simp; omega
        simp only [args0, args1, args2, args3, args4, jn_d, jv_d, jr_d, callK_ret, eCond_b, eGuard_b, pPick_b, pUn_not, eLeave_nil, bAdd_i, bSub_i, bMul_i, bQuo_i, bRem_i, bEql_i, bNeq_i, bLss_i, bLeq_i, bGtr_i, bGeq_i, bEql_s, bNeq_s, bLss_s, pInt_i, pLen_s, pLen_sl, pLen_gr, pLen_ns, pLen_sz, pBuild_d, fillK_nil, cond_true, cond_false, Bool.not_true, Bool.not_false, Bool.cond_self, List.length_nil, List.length_cons, List.nil_append, List.cons_append, List.append_nil, List.append_assoc, List.length_append, List.getElem?_cons_zero, List.getElem?_cons_succ, List.drop_succ_cons, List.drop_zero, List.drop_nil, List.take_succ_cons, List.take_zero, List.take_nil, List.set_cons_zero, List.set_cons_succ, Nat.zero_add, Nat.add_zero, Nat.zero_mul, Nat.mul_one, Nat.one_mul, Nat.reduceAdd, Nat.reduceMul, Nat.reduceSub, kont_v, AV.cells_i, AV.cells_s, AV.cells_b, AV.cells_agg, AV.cells_sl, this]
        rfl
    | cons x m ih =>
      intro i fuel he hi hf
      cases fuel with
      | zero => simp at hf
      | succ f =>
        simp only [List.length_cons] at hi hf
        have hlt : i < l.length := by omega
        have hx : l[i]? = some x := by
          have := congrArg List.head? he
          rw [List.head?_drop] at this
          exact this.symm
        have hmem : x ∈ l := List.mem_of_getElem? hx
        have hm : m = l.drop (i + 1) := by
          have := congrArg List.tail he
          rw [List.tail_drop] at this
          exact this
        have ih' := ih (i + 1) f hm (by omega) (by omega)
        rw [lp_s]
        generalize lp [8] f _ = K at ih' ⊢
        have hd : decide ((i : Int) < (l.length : Int)) = true := by simp; omega
        have hgx := hg x hmem
        simp only [B_IFRl4, B_IFRj3, B_IFRj2, args0, args1, args2, args3, args4, jn_d, jv_d, jr_d, callK_ret, eCond_b, eGuard_b, pPick_b, pUn_not, eLeave_nil, bAdd_i, bSub_i, bMul_i, bQuo_i, bRem_i, bEql_i, bNeq_i, bLss_i, bLeq_i, bGtr_i, bGeq_i, bEql_s, bNeq_s, bLss_s, pInt_i, pLen_s, pLen_sl, pLen_gr, pLen_ns, pLen_sz, pBuild_d, fillK_nil, cond_true, cond_false, Bool.not_true, Bool.not_false, Bool.cond_self, List.length_nil, List.length_cons, List.nil_append, List.cons_append, List.append_nil, List.append_assoc, List.length_append, List.getElem?_cons_zero, List.getElem?_cons_succ, List.drop_succ_cons, List.drop_zero, List.drop_nil, List.take_succ_cons, List.take_zero, List.take_nil, List.set_cons_zero, List.set_cons_succ, Nat.zero_add, Nat.add_zero, Nat.zero_mul, Nat.mul_one, Nat.one_mul, Nat.reduceAdd, Nat.reduceMul, Nat.reduceSub, kont_v, AV.cells_i, AV.cells_s, AV.cells_b, AV.cells_agg, AV.cells_sl, hd, encRange.iadr (kk := 2) hv rfl rfl hlt, encRange.load_t (kk := 2) rfl hx, eCallV_fn, show encRange.enc x = [.i .i32 x.1, .i .i32 x.2] from rfl, hgx, idxP]
        cases hp : p x with
        | true => simp only [args0, args1, args2, args3, args4, jn_d, jv_d, jr_d, callK_ret, eCond_b, eGuard_b, pPick_b, pUn_not, eLeave_nil, bAdd_i, bSub_i, bMul_i, bQuo_i, bRem_i, bEql_i, bNeq_i, bLss_i, bLeq_i, bGtr_i, bGeq_i, bEql_s, bNeq_s, bLss_s, pInt_i, pLen_s, pLen_sl, pLen_gr, pLen_ns, pLen_sz, pBuild_d, fillK_nil, cond_true, cond_false, Bool.not_true, Bool.not_false, Bool.cond_self, List.length_nil, List.length_cons, List.nil_append, List.cons_append, List.append_nil, List.append_assoc, List.length_append, List.getElem?_cons_zero, List.getElem?_cons_succ, List.drop_succ_cons, List.drop_zero, List.drop_nil, List.take_succ_cons, List.take_zero, List.take_nil, List.set_cons_zero, List.set_cons_succ, Nat.zero_add, Nat.add_zero, Nat.zero_mul, Nat.mul_one, Nat.one_mul, Nat.reduceAdd, Nat.reduceMul, Nat.reduceSub, kont_v, AV.cells_i, AV.cells_s, AV.cells_b, AV.cells_agg, AV.cells_sl, if_true]
        | false =>
          simp only [args0, args1, args2, args3, args4, jn_d, jv_d, jr_d, callK_ret, eCond_b, eGuard_b, pPick_b, pUn_not, eLeave_nil, bAdd_i, bSub_i, bMul_i, bQuo_i, bRem_i, bEql_i, bNeq_i, bLss_i, bLeq_i, bGtr_i, bGeq_i, bEql_s, bNeq_s, bLss_s, pInt_i, pLen_s, pLen_sl, pLen_gr, pLen_ns, pLen_sz, pBuild_d, fillK_nil, cond_true, cond_false, Bool.not_true, Bool.not_false, Bool.cond_self, List.length_nil, List.length_cons, List.nil_append, List.cons_append, List.append_nil, List.append_assoc, List.length_append, List.getElem?_cons_zero, List.getElem?_cons_succ, List.drop_succ_cons, List.drop_zero, List.drop_nil, List.take_succ_cons, List.take_zero, List.take_nil, List.set_cons_zero, List.set_cons_succ, Nat.zero_add, Nat.add_zero, Nat.zero_mul, Nat.mul_one, Nat.one_mul, Nat.reduceAdd, Nat.reduceMul, Nat.reduceSub, kont_v, AV.cells_i, AV.cells_s, AV.cells_b, AV.cells_agg, AV.cells_sl, Bool.false_eq_true, if_false]
          rw [wrap64 (by omega) (by omega), show ((i : Nat) : Int) + 1 = ((i + 1 : Nat) : Int) from by omega]
          exact ih'
  exact key l 0 30000 (by simp) (by simp) hl
def hasR (l : List (Int × Int)) (r : Int) : Bool := l.any fun p => has1P p r
def hasF : List AV → Option AV
  | [v, .i .i32 r] => match encRange.decS v with
    | some l => if l.length < 30000 then some (.b (hasR l r)) else none
    | none => none
  | _ => none
theorem has_c (I : Ids) (R R1 R2 : Rec) (h1 : ∀ args s, R.f (I.f 1) args s = B_CFR I R1 args s) (h2 : ∀ args s, R1.f (I.f 3) args s = B_IFR I R2 args s) (h3 : ∀ args s, R2.g (I.f 2) args s = flatOv has1F R2 args s)
    (as : List AV) (v : AV) (h : hasF as = some v) : Tot (fun v0 s0 => ∃ v', Inl Fla s0.st.1 v0 v' ∧ v' = v) (B_Has I R as (S [] 0)) := by
  unfold hasF at h
  split at h
  case h_2 => cases h
  rename_i w r
  split at h
  case h_2 => cases h
  rename_i l hv
  split at h
  case isFalse => cases h
  rename_i hl
  cases h
  have : B_Has I R [w, .i .i32 r] (S [] 0) = some (.ret (.b (hasR l r)) (S [some (.cells 0 false (I.t 1) 0 [.i .i32 r])] 1)) := by
    unfold B_Has
    rw [args2, pBox_S (AV.cells_i _ _) (by simp)]
    simp only [args0, args1, args2, args3, args4, jn_d, jv_d, jr_d, callK_ret, eCond_b, eGuard_b, pPick_b, pUn_not, eLeave_nil, bAdd_i, bSub_i, bMul_i, bQuo_i, bRem_i, bEql_i, bNeq_i, bLss_i, bLeq_i, bGtr_i, bGeq_i, bEql_s, bNeq_s, bLss_s, pInt_i, pLen_s, pLen_sl, pLen_gr, pLen_ns, pLen_sz, pBuild_d, fillK_nil, cond_true, cond_false, Bool.not_true, Bool.not_false, Bool.cond_self, List.length_nil, List.length_cons, List.nil_append, List.cons_append, List.append_nil, List.append_assoc, List.length_append, List.getElem?_cons_zero, List.getElem?_cons_succ, List.drop_succ_cons, List.drop_zero, List.drop_nil, List.take_succ_cons, List.take_zero, List.take_nil, List.set_cons_zero, List.set_cons_succ, Nat.zero_add, Nat.add_zero, Nat.zero_mul, Nat.mul_one, Nat.one_mul, Nat.reduceAdd, Nat.reduceMul, Nat.reduceSub, kont_v, AV.cells_i, AV.cells_s, AV.cells_b, AV.cells_agg, AV.cells_sl, h1]
    unfold B_CFR
    simp only [args0, args1, args2, args3, args4, jn_d, jv_d, jr_d, callK_ret, eCond_b, eGuard_b, pPick_b, pUn_not, eLeave_nil, bAdd_i, bSub_i, bMul_i, bQuo_i, bRem_i, bEql_i, bNeq_i, bLss_i, bLeq_i, bGtr_i, bGeq_i, bEql_s, bNeq_s, bLss_s, pInt_i, pLen_s, pLen_sl, pLen_gr, pLen_ns, pLen_sz, pBuild_d, fillK_nil, cond_true, cond_false, Bool.not_true, Bool.not_false, Bool.cond_self, List.length_nil, List.length_cons, List.nil_append, List.cons_append, List.append_nil, List.append_assoc, List.length_append, List.getElem?_cons_zero, List.getElem?_cons_succ, List.drop_succ_cons, List.drop_zero, List.drop_nil, List.take_succ_cons, List.take_zero, List.take_nil, List.set_cons_zero, List.set_cons_succ, Nat.zero_add, Nat.add_zero, Nat.zero_mul, Nat.mul_one, Nat.one_mul, Nat.reduceAdd, Nat.reduceMul, Nat.reduceSub, kont_v, AV.cells_i, AV.cells_s, AV.cells_b, AV.cells_agg, AV.cells_sl, h2]
    have hb : ([some (.cells 0 false (I.t 1) 0 [.i .i32 r])] : List (Option Blk))[0]? = some (some (.cells 0 false (I.t 1) 0 [.i .i32 r])) := rfl
    rw [IFR_run I R2 (p := fun p => has1P p r) hv hl (fun x hx => by
      rw [h3]
      refine flatOv_S (as := [.agg [.i .i32 x.1, .i .i32 x.2], .pe [.i .i32 r] 1 0 0]) ?_ rfl
      rfl)]
    simp only [args0, args1, args2, args3, args4, jn_d, jv_d, jr_d, callK_ret, eCond_b, eGuard_b, pPick_b, pUn_not, eLeave_nil, bAdd_i, bSub_i, bMul_i, bQuo_i, bRem_i, bEql_i, bNeq_i, bLss_i, bLeq_i, bGtr_i, bGeq_i, bEql_s, bNeq_s, bLss_s, pInt_i, pLen_s, pLen_sl, pLen_gr, pLen_ns, pLen_sz, pBuild_d, fillK_nil, cond_true, cond_false, Bool.not_true, Bool.not_false, Bool.cond_self, List.length_nil, List.length_cons, List.nil_append, List.cons_append, List.append_nil, List.append_assoc, List.length_append, List.getElem?_cons_zero, List.getElem?_cons_succ, List.drop_succ_cons, List.drop_zero, List.drop_nil, List.take_succ_cons, List.take_zero, List.take_nil, List.set_cons_zero, List.set_cons_succ, Nat.zero_add, Nat.add_zero, Nat.zero_mul, Nat.mul_one, Nat.one_mul, Nat.reduceAdd, Nat.reduceMul, Nat.reduceSub, kont_v, AV.cells_i, AV.cells_s, AV.cells_b, AV.cells_agg, AV.cells_sl, idxP_nonneg]
    rfl
  rw [this]
  exact Tot.ret ⟨_, .clo _ (by simp only [Fla]), rfl⟩
end Hb
end

section
set_option linter.unusedVariables false
set_option linter.unusedSimpArgs false
set_option linter.constructorNameAsVariable false
set_option autoImplicit false
set_option linter.unusedVariables false
set_option linter.unusedSimpArgs false
namespace Hb
open Go
theorem eCallV_fy (Rg : FuncId → List AV → ES → Res) (Rb : Nat → XC → (Nat → AV) → ES → Res) (r st : Nat) (args : List AV) (s : ES) (k : KV) : eCallV Rg Rb (.fy r st) args s k = eRound Rb r st args s k := rfl
theorem round_S {Rb : Nat → XC → (Nat → AV) → ES → Res} {l l1 l2 : List (Option Blk)} {nx nx1 nx2 r st N dr ds : Nat} {ρ f f' : Nat → AV} {ps : List Nat} {xa xb : XC} {args : List AV}
    (h0 : l[r]? = some (some (.loop st .ready none N ρ ps xa xb dr ds))) (hp : args.length = ps.length)
    (hA : Rb N xa (putAllB ρ ps args) (S l nx) = some (.ex .normal f (S l1 nx1))) (h1 : l1[r]? = some (some (.loop st .ready none N ρ ps xa xb dr ds))) (hl1 : l1.length ≤ 999999999)
    (hB : Rb N xb f (S (l1.set r (some (.loop st .busy none N ρ ps xa xb dr ds))) nx1) = some (.ex .normal f' (S l2 nx2))) (h2 : l2[r]? = some (some (.loop st .busy none N ρ ps xa xb dr ds))) (hl2 : l2.length ≤ 999999999) (k : KV) :
    eRound Rb r st args (S l nx) k = k (.b true) (S (l2.set r (some (.loop st .ready none N ρ ps xa xb dr ds))) nx2) := by
  unfold eRound
  rw [S_sAt (st := st) h0 rfl]
  simp only [lenR_eq, hp, beqN, decide_true, cond_true, hA, exK_ex]
  unfold eRoundMid
  simp only
  rw [S_sAt (st := st) h1 rfl]
  simp only
  rw [S_put ((List.getElem?_eq_some_iff.1 h1).1) hl1, hB]
  simp only [exK_ex]
  unfold eRoundEnd
  rw [S_sAt (st := st) h2 rfl]
  simp only
  rw [S_put ((List.getElem?_eq_some_iff.1 h2).1) hl2]
theorem pRange_S {Rh : FuncId → List AV → ES → Res} {N gf nx : Nat} {cap : List AV} {ps : List Nat} {ρ : Nat → AV} {xa xb : XC} {d : List (Nat × Nat)} {l : List (Option Blk)} {kn : List (Nat × Nat) → ES → Res} {ke : XExit → List (Nat × Nat) → ES → Res}
    (hps : allLt ps N = true) (hl : l.length + 2 ≤ 999999999) :
    pRange Rh N (.fn (.func gf) [] cap) ps ρ xa xb d (S l nx) kn ke = callK (Rh gf (.fy (l.length + 1) (nx + 1) :: cap) (S (l ++ [some (.dfr nx), some (.loop (nx + 1) .ready none N ρ ps xa xb l.length nx)]) (nx + 2))) fun _ s3 =>
      eRangeEnd (l.length + 1) (nx + 1) ((l.length, nx) :: d) s3 kn ke := by
  unfold pRange
  simp only
  rw [hps, cond_true, S_push (by omega), S_push (by simp; omega)]
  simp
theorem eRangeEnd_S {l : List (Option Blk)} {nx r st N dr ds : Nat} {ρ : Nat → AV} {ps : List Nat} {xa xb : XC} {d : List (Nat × Nat)} {kn : List (Nat × Nat) → ES → Res} {ke : XExit → List (Nat × Nat) → ES → Res}
    (h : l[r]? = some (some (.loop st .ready none N ρ ps xa xb dr ds))) (hl : l.length ≤ 999999999) : eRangeEnd r st d (S l nx) kn ke = kn d (S (l.set r none) nx) := by
  unfold eRangeEnd
  rw [S_sAt (st := st) h rfl]
  show (pPut (S l nx) r none fun s' => kn d s') = _
  rw [S_put ((List.getElem?_eq_some_iff.1 h).1) hl]
theorem eLeave_S {l : List (Option Blk)} {nx r st : Nat} {d : List (Nat × Nat)} {k : ES → Res} (h : l[r]? = some (some (.dfr st))) (hl : l.length ≤ 999999999) : eLeave ((r, st) :: d) (S l nx) k = eLeave d (S (l.set r none) nx) k := by
  show (sAt (S l nx) r st fun b => (match b with | .dfr _ => pPut (S l nx) r none (fun s => eLeave d s k) | _ => none)) = _
  rw [S_sAt (st := st) h rfl]
  simp only
  rw [S_put ((List.getElem?_eq_some_iff.1 h).1) hl]
theorem Enc.cells_of {α : Type} (E : Enc α) {v : AV} {l : List α} (h : E.decS v = some l) : v.cells = some [v] := by
  rcases E.decS_inv h with ⟨_, rfl | rfl⟩ | rfl <;> rfl
abbrev encR32 : Enc Int := encI .i32
abbrev encI64 : Enc Int := encI .i64
def stepV (l : List Int) (back : Bool) (z : Nat) : Int × Int × Bool :=
  cond back (if z = 0 then (0, 0, false) else ((l[z - 1]?).getD 0, (z : Int) - 1, true)) (if z = l.length then (0, 0, false) else ((l[z]?).getD 0, (z : Int) + 1, true))
def stepF : List AV → Option AV
  | [.agg [t, .b back], .i .i64 z] => match encR32.decS t with
    | some l => if 0 ≤ z ∧ z ≤ l.length ∧ l.length < 100000 then some (.tup [.i .i32 (stepV l back z.toNat).1, .i .i64 (stepV l back z.toNat).2.1, .b (stepV l back z.toNat).2.2]) else none
    | none => none
  | _ => none
theorem step_c (I : Ids) (R : Rec) (as : List AV) (v : AV) (h : stepF as = some v) : Tot (fun v0 s0 => ∃ v', Inl Fla s0.st.1 v0 v' ∧ v' = v) (B_mstep I R as (S [] 0)) := by
  unfold stepF at h
  split at h
  case h_2 => cases h
  rename_i t back z
  split at h
  case h_2 => cases h
  rename_i l hv
  split at h
  case isFalse => cases h
  rename_i hz
  obtain ⟨hz0, hz1, hz2⟩ := hz
  cases h
  obtain ⟨m, rfl⟩ : ∃ m : Nat, z = m := ⟨z.toNat, by omega⟩
  simp only [Int.toNat_natCast]
  have hm : m ≤ l.length := by omega
  have : B_mstep I R [.agg [t, .b back], .i .i64 (m : Nat)] (S [] 0) = some (.ret (.tup [.i .i32 (stepV l back m).1, .i .i64 (stepV l back m).2.1, .b (stepV l back m).2.2]) (S [some (.cells 0 false (I.t 2) 0 [t, .b back])] 1)) := by
    unfold B_mstep
    rw [args2, pBox_S (AV.cells_agg _) (by simp)]
    simp only [args0, args1, args2, args3, args4, jn_d, jv_d, jr_d, callK_ret, eCond_b, eGuard_b, pPick_b, pUn_not, eLeave_nil, bAdd_i, bSub_i, bMul_i, bQuo_i, bRem_i, bEql_i, bNeq_i, bLss_i, bLeq_i, bGtr_i, bGeq_i, bEql_s, bNeq_s, bLss_s, pInt_i, pLen_s, pLen_sl, pLen_gr, pLen_ns, pLen_sz, pBuild_d, fillK_nil, cond_true, cond_false, Bool.not_true, Bool.not_false, Bool.cond_self, List.length_nil, List.length_cons, List.nil_append, List.cons_append, List.append_nil, List.append_assoc, List.length_append, List.getElem?_cons_zero, List.getElem?_cons_succ, List.drop_succ_cons, List.drop_zero, List.drop_nil, List.take_succ_cons, List.take_zero, List.take_nil, List.set_cons_zero, List.set_cons_succ, Nat.zero_add, Nat.add_zero, Nat.zero_mul, Nat.mul_one, Nat.one_mul, Nat.reduceAdd, Nat.reduceMul, Nat.reduceSub, kont_v, AV.cells_i, AV.cells_s, AV.cells_b, AV.cells_agg, AV.cells_sl]
    have hb : ([some (.cells 0 false (I.t 2) 0 [t, .b back])] : List (Option Blk))[0]? = some (some (.cells 0 false (I.t 2) 0 [t, .b back])) := rfl
    simp (disch := simp) only [args0, args1, args2, args3, args4, jn_d, jv_d, jr_d, callK_ret, eCond_b, eGuard_b, pPick_b, pUn_not, eLeave_nil, bAdd_i, bSub_i, bMul_i, bQuo_i, bRem_i, bEql_i, bNeq_i, bLss_i, bLeq_i, bGtr_i, bGeq_i, bEql_s, bNeq_s, bLss_s, pInt_i, pLen_s, pLen_sl, pLen_gr, pLen_ns, pLen_sz, pBuild_d, fillK_nil, cond_true, cond_false, Bool.not_true, Bool.not_false, Bool.cond_self, List.length_nil, List.length_cons, List.nil_append, List.cons_append, List.append_nil, List.append_assoc, List.length_append, List.getElem?_cons_zero, List.getElem?_cons_succ, List.drop_succ_cons, List.drop_zero, List.drop_nil, List.take_succ_cons, List.take_zero, List.take_nil, List.set_cons_zero, List.set_cons_succ, Nat.zero_add, Nat.add_zero, Nat.zero_mul, Nat.mul_one, Nat.one_mul, Nat.reduceAdd, Nat.reduceMul, Nat.reduceSub, kont_v, AV.cells_i, AV.cells_s, AV.cells_b, AV.cells_agg, AV.cells_sl, pFadr_p hb rfl, pLoad_Sf hb rfl, B_mstepj2, B_mstepj1, B_mstepj3, encR32.pLen_v hv]
    cases back with
    | true =>
      simp only [cond_true, stepV]
      by_cases h0 : m = 0
      · subst h0; simp [args0, args1, args2, args3, args4, jn_d, jv_d, jr_d, callK_ret, eCond_b, eGuard_b, pPick_b, pUn_not, eLeave_nil, bAdd_i, bSub_i, bMul_i, bQuo_i, bRem_i, bEql_i, bNeq_i, bLss_i, bLeq_i, bGtr_i, bGeq_i, bEql_s, bNeq_s, bLss_s, pInt_i, pLen_s, pLen_sl, pLen_gr, pLen_ns, pLen_sz, pBuild_d, fillK_nil, cond_true, cond_false, Bool.not_true, Bool.not_false, Bool.cond_self, List.length_nil, List.length_cons, List.nil_append, List.cons_append, List.append_nil, List.append_assoc, List.length_append, List.getElem?_cons_zero, List.getElem?_cons_succ, List.drop_succ_cons, List.drop_zero, List.drop_nil, List.take_succ_cons, List.take_zero, List.take_nil, List.set_cons_zero, List.set_cons_succ, Nat.zero_add, Nat.add_zero, Nat.zero_mul, Nat.mul_one, Nat.one_mul, Nat.reduceAdd, Nat.reduceMul, Nat.reduceSub, kont_v, AV.cells_i, AV.cells_s, AV.cells_b, AV.cells_agg, AV.cells_sl]
      · have hd : decide ((m : Int) = 0) = false := by simp; omega
        have hx : l[m - 1]? = some ((l[m - 1]?).getD 0) := by
          rw [List.getElem?_eq_getElem (by omega)]; rfl
        simp only [hd, args0, args1, args2, args3, args4, jn_d, jv_d, jr_d, callK_ret, eCond_b, eGuard_b, pPick_b, pUn_not, eLeave_nil, bAdd_i, bSub_i, bMul_i, bQuo_i, bRem_i, bEql_i, bNeq_i, bLss_i, bLeq_i, bGtr_i, bGeq_i, bEql_s, bNeq_s, bLss_s, pInt_i, pLen_s, pLen_sl, pLen_gr, pLen_ns, pLen_sz, pBuild_d, fillK_nil, cond_true, cond_false, Bool.not_true, Bool.not_false, Bool.cond_self, List.length_nil, List.length_cons, List.nil_append, List.cons_append, List.append_nil, List.append_assoc, List.length_append, List.getElem?_cons_zero, List.getElem?_cons_succ, List.drop_succ_cons, List.drop_zero, List.drop_nil, List.take_succ_cons, List.take_zero, List.take_nil, List.set_cons_zero, List.set_cons_succ, Nat.zero_add, Nat.add_zero, Nat.zero_mul, Nat.mul_one, Nat.one_mul, Nat.reduceAdd, Nat.reduceMul, Nat.reduceSub, kont_v, AV.cells_i, AV.cells_s, AV.cells_b, AV.cells_agg, AV.cells_sl, if_neg h0]
        rw [wrap64 (by omega) (by omega), encR32.iadr (kk := 1) (i := m - 1) hv rfl (by omega) (by omega), encR32.load_f (kk := 1) rfl hx (by decide)]
        rfl
    | false =>
      simp only [cond_false, stepV]
      by_cases h0 : m = l.length
      · subst h0; simp [args0, args1, args2, args3, args4, jn_d, jv_d, jr_d, callK_ret, eCond_b, eGuard_b, pPick_b, pUn_not, eLeave_nil, bAdd_i, bSub_i, bMul_i, bQuo_i, bRem_i, bEql_i, bNeq_i, bLss_i, bLeq_i, bGtr_i, bGeq_i, bEql_s, bNeq_s, bLss_s, pInt_i, pLen_s, pLen_sl, pLen_gr, pLen_ns, pLen_sz, pBuild_d, fillK_nil, cond_true, cond_false, Bool.not_true, Bool.not_false, Bool.cond_self, List.length_nil, List.length_cons, List.nil_append, List.cons_append, List.append_nil, List.append_assoc, List.length_append, List.getElem?_cons_zero, List.getElem?_cons_succ, List.drop_succ_cons, List.drop_zero, List.drop_nil, List.take_succ_cons, List.take_zero, List.take_nil, List.set_cons_zero, List.set_cons_succ, Nat.zero_add, Nat.add_zero, Nat.zero_mul, Nat.mul_one, Nat.one_mul, Nat.reduceAdd, Nat.reduceMul, Nat.reduceSub, kont_v, AV.cells_i, AV.cells_s, AV.cells_b, AV.cells_agg, AV.cells_sl]
      · have hd : decide ((m : Int) = (l.length : Int)) = false := by simp; omega
        have hx : l[m]? = some ((l[m]?).getD 0) := by
          rw [List.getElem?_eq_getElem (by omega)]; rfl
        simp only [hd, args0, args1, args2, args3, args4, jn_d, jv_d, jr_d, callK_ret, eCond_b, eGuard_b, pPick_b, pUn_not, eLeave_nil, bAdd_i, bSub_i, bMul_i, bQuo_i, bRem_i, bEql_i, bNeq_i, bLss_i, bLeq_i, bGtr_i, bGeq_i, bEql_s, bNeq_s, bLss_s, pInt_i, pLen_s, pLen_sl, pLen_gr, pLen_ns, pLen_sz, pBuild_d, fillK_nil, cond_true, cond_false, Bool.not_true, Bool.not_false, Bool.cond_self, List.length_nil, List.length_cons, List.nil_append, List.cons_append, List.append_nil, List.append_assoc, List.length_append, List.getElem?_cons_zero, List.getElem?_cons_succ, List.drop_succ_cons, List.drop_zero, List.drop_nil, List.take_succ_cons, List.take_zero, List.take_nil, List.set_cons_zero, List.set_cons_succ, Nat.zero_add, Nat.add_zero, Nat.zero_mul, Nat.mul_one, Nat.one_mul, Nat.reduceAdd, Nat.reduceMul, Nat.reduceSub, kont_v, AV.cells_i, AV.cells_s, AV.cells_b, AV.cells_agg, AV.cells_sl, if_neg h0]
        rw [encR32.iadr (kk := 1) (i := m) hv rfl rfl (by omega), encR32.load_f (kk := 1) rfl hx (by decide)]
        rw [wrap64 (by omega) (by omega)]
        rfl
  rw [this]
  exact Tot.ret ⟨_, .clo _ (by simp only [Fla, FlaL, and_self]), rfl⟩
def noneF (I : Ids) : List AV → Option (Nat × Nat × Nat × List AV)
  | [.agg [t, .b back]] => match encR32.decS t with
    | some l => if l.length < 100000 then some (I.t 3, l.length + 1, 1, List.replicate (l.length + 1) (.b false)) else none
    | none => none
  | _ => none
theorem FlaL_rep (n : Nat) (b : Bool) : FlaL (List.replicate n (.b b)) := by
  rw [FlaL_iff]
  intro x hx
  rw [List.eq_of_mem_replicate hx]
  simp only [Fla]
theorem InlL.same {σ : Store} : ∀ {l : List AV}, FlaL l → InlL Fla σ l l
  | [], _ => .nil
  | x :: xs, h => by simp only [FlaL] at h; exact .cons _ _ _ _ (.clo _ h.1) (InlL.same h.2)
theorem none_c (I : Ids) (R : Rec) (as : List AV) (T n k : Nat) (cs : List AV) (h : noneF I as = some (T, n, k, cs)) : (n = 0 → Tot (fun v _ => v = .ns) (B_mnone I R as (S [] 0))) ∧ (n ≠ 0 → Tot (IsRow Fla T n k cs) (B_mnone I R as (S [] 0))) := by
  unfold noneF at h
  split at h
  case h_2 => cases h
  rename_i t back
  split at h
  case h_2 => cases h
  rename_i l hv
  split at h
  case isFalse => cases h
  rename_i hl
  cases h
  refine ⟨fun h => by omega, fun _ => ?_⟩
  have : B_mnone I R [.agg [t, .b back]] (S [] 0) = some (.ret (.gr 1 1 0 (l.length + 1) 1) (S [some (.cells 0 false (I.t 2) 0 [t, .b back]), some (.cells 1 false (I.t 3) 0 (List.replicate (l.length + 1) (.b false)))] 2)) := by
    unfold B_mnone
    rw [args1, pBox_S (AV.cells_agg _) (by simp)]
    simp only [args0, args1, args2, args3, args4, jn_d, jv_d, jr_d, callK_ret, eCond_b, eGuard_b, pPick_b, pUn_not, eLeave_nil, bAdd_i, bSub_i, bMul_i, bQuo_i, bRem_i, bEql_i, bNeq_i, bLss_i, bLeq_i, bGtr_i, bGeq_i, bEql_s, bNeq_s, bLss_s, pInt_i, pLen_s, pLen_sl, pLen_gr, pLen_ns, pLen_sz, pBuild_d, fillK_nil, cond_true, cond_false, Bool.not_true, Bool.not_false, Bool.cond_self, List.length_nil, List.length_cons, List.nil_append, List.cons_append, List.append_nil, List.append_assoc, List.length_append, List.getElem?_cons_zero, List.getElem?_cons_succ, List.drop_succ_cons, List.drop_zero, List.drop_nil, List.take_succ_cons, List.take_zero, List.take_nil, List.set_cons_zero, List.set_cons_succ, Nat.zero_add, Nat.add_zero, Nat.zero_mul, Nat.mul_one, Nat.one_mul, Nat.reduceAdd, Nat.reduceMul, Nat.reduceSub, kont_v, AV.cells_i, AV.cells_s, AV.cells_b, AV.cells_agg, AV.cells_sl]
    have hb : ([some (.cells 0 false (I.t 2) 0 [t, .b back])] : List (Option Blk))[0]? = some (some (.cells 0 false (I.t 2) 0 [t, .b back])) := rfl
    simp (disch := simp) only [args0, args1, args2, args3, args4, jn_d, jv_d, jr_d, callK_ret, eCond_b, eGuard_b, pPick_b, pUn_not, eLeave_nil, bAdd_i, bSub_i, bMul_i, bQuo_i, bRem_i, bEql_i, bNeq_i, bLss_i, bLeq_i, bGtr_i, bGeq_i, bEql_s, bNeq_s, bLss_s, pInt_i, pLen_s, pLen_sl, pLen_gr, pLen_ns, pLen_sz, pBuild_d, fillK_nil, cond_true, cond_false, Bool.not_true, Bool.not_false, Bool.cond_self, List.length_nil, List.length_cons, List.nil_append, List.cons_append, List.append_nil, List.append_assoc, List.length_append, List.getElem?_cons_zero, List.getElem?_cons_succ, List.drop_succ_cons, List.drop_zero, List.drop_nil, List.take_succ_cons, List.take_zero, List.take_nil, List.set_cons_zero, List.set_cons_succ, Nat.zero_add, Nat.add_zero, Nat.zero_mul, Nat.mul_one, Nat.one_mul, Nat.reduceAdd, Nat.reduceMul, Nat.reduceSub, kont_v, AV.cells_i, AV.cells_s, AV.cells_b, AV.cells_agg, AV.cells_sl, pFadr_p hb rfl, pLoad_Sf hb rfl, encR32.pLen_v hv]
    rw [wrap64 (by omega) (by omega)]
    unfold pMk
    simp only
    rw [if_pos (by omega), frcLA_eq, frcN_eq, S_push (by simp)]
    have e1 : ((l.length : Nat) + 1 : Int).toNat = l.length + 1 := by omega
    have e2 : (List.map (fun j => (([AV.b false] : List AV)[j % 1]?).getD AV.u) (List.range (l.length + 1))) = List.replicate (l.length + 1) (.b false) := by
      apply List.ext_getElem
      · simp
      · intro i h1 h2
        simp [Nat.mod_one]
    simp only [e1, List.length_cons, List.length_nil, Nat.zero_add, Nat.mul_one, e2]
    rfl
  rw [this]
  refine Tot.ret ⟨1, 1, 1, _, rfl, ?_, InlL.same (FlaL_rep _ _)⟩
  rw [S_st]
  rfl
end Hb
end

section
set_option linter.unusedVariables false
set_option linter.unusedSimpArgs false
set_option linter.constructorNameAsVariable false
set_option autoImplicit false
set_option linter.unusedVariables false
set_option linter.unusedSimpArgs false
namespace Hb
open Go
def trues : List Bool → Nat → List Nat
  | [], _ => []
  | b :: bs, i => cond b (i :: trues bs (i + 1)) (trues bs (i + 1))
theorem mall1_iter {I : Ids} {R : Rec} {v cap : AV} {bs : List Bool} {r st : Nat} (hv : encB.decS v = some bs) (hl : bs.length < 30000) (Inv : List Nat → ES → Prop)
    (hround : ∀ a s z, Inv a s → a.length ≤ z → z < bs.length → ∃ s', Inv (a ++ [z]) s' ∧ ∀ k, eRound R.b r st [.i .i64 (z : Nat)] s k = k (.b true) s') (s : ES) (h0 : Inv [] s) (hcap : ∀ k, pLoad s false 1 cap k = k v) :
    ∃ s', Inv (trues bs 0) s' ∧ B_mall1 I R [.fy r st, cap] s = some (.ret (.tup []) s') := by
  unfold B_mall1
  simp only [args2, hcap, encB.pLen_v hv]
  have key : ∀ (m : List Bool) (i fuel : Nat) (a : List Nat) (s : ES), m = bs.drop i → i + m.length = bs.length → m.length < fuel → Inv a s → a.length ≤ i →
      ∃ s', Inv (a ++ trues m i) s' ∧ lp [7] fuel (B_mall1l3 I R (.i .i64 (bs.length : Nat)) v (.fy r st)) (.i .i64 (i : Nat)) [] s = some (.ret (.tup []) s') := by
    intro m
    induction m with
    | nil =>
      intro i fuel a s he hi hf ha hal
      cases fuel with
      | zero => omega
      | succ f =>
        simp only [List.length_nil] at hi
        refine ⟨s, by simpa [trues] using ha, ?_⟩
        rw [lp_s]
        have hd : decide ((i : Int) < (bs.length : Int)) = false := by simp; omega
        simp only [B_mall1l3, args0, args1, args2, args3, args4, jn_d, jv_d, jr_d, callK_ret, eCond_b, eGuard_b, pPick_b, pUn_not, eLeave_nil, bAdd_i, bSub_i, bMul_i, bQuo_i, bRem_i, bEql_i, bNeq_i, bLss_i, bLeq_i, bGtr_i, bGeq_i, bEql_s, bNeq_s, bLss_s, pInt_i, pLen_s, pLen_sl, pLen_gr, pLen_ns, pLen_sz, pBuild_d, fillK_nil, cond_true, cond_false, Bool.not_true, Bool.not_false, Bool.cond_self, List.length_nil, List.length_cons, List.nil_append, List.cons_append, List.append_nil, List.append_assoc, List.length_append, List.getElem?_cons_zero, List.getElem?_cons_succ, List.drop_succ_cons, List.drop_zero, List.drop_nil, List.take_succ_cons, List.take_zero, List.take_nil, List.set_cons_zero, List.set_cons_succ, Nat.zero_add, Nat.add_zero, Nat.zero_mul, Nat.mul_one, Nat.one_mul, Nat.reduceAdd, Nat.reduceMul, Nat.reduceSub, kont_v, AV.cells_i, AV.cells_s, AV.cells_b, AV.cells_agg, AV.cells_sl, hd]
    | cons x m ih =>
      intro i fuel a s he hi hf ha hal
      cases fuel with
      | zero => simp at hf
      | succ f =>
        simp only [List.length_cons] at hi hf
        have hlt : i < bs.length := by omega
        have hx : bs[i]? = some x := by
          have := congrArg List.head? he
          rw [List.head?_drop] at this
          exact this.symm
        have hm : m = bs.drop (i + 1) := by
          have := congrArg List.tail he
          rw [List.tail_drop] at this
          exact this
        have ih' := fun a s ha hal => ih (i + 1) f a s hm (by omega) (by omega) ha hal
        rw [lp_s]
        generalize lp [7] f _ = K at ih' ⊢
        have hd : decide ((i : Int) < (bs.length : Int)) = true := by simp; omega
        have hw : IntKind.i64.wrap ((i : Nat) + 1 : Int) = ((i + 1 : Nat) : Int) := by rw [wrap64 (by omega) (by omega)]; omega
        simp only [B_mall1l3, B_mall1j2, B_mall1j1, args0, args1, args2, args3, args4, jn_d, jv_d, jr_d, callK_ret, eCond_b, eGuard_b, pPick_b, pUn_not, eLeave_nil, bAdd_i, bSub_i, bMul_i, bQuo_i, bRem_i, bEql_i, bNeq_i, bLss_i, bLeq_i, bGtr_i, bGeq_i, bEql_s, bNeq_s, bLss_s, pInt_i, pLen_s, pLen_sl, pLen_gr, pLen_ns, pLen_sz, pBuild_d, fillK_nil, cond_true, cond_false, Bool.not_true, Bool.not_false, Bool.cond_self, List.length_nil, List.length_cons, List.nil_append, List.cons_append, List.append_nil, List.append_assoc, List.length_append, List.getElem?_cons_zero, List.getElem?_cons_succ, List.drop_succ_cons, List.drop_zero, List.drop_nil, List.take_succ_cons, List.take_zero, List.take_nil, List.set_cons_zero, List.set_cons_succ, Nat.zero_add, Nat.add_zero, Nat.zero_mul, Nat.mul_one, Nat.one_mul, Nat.reduceAdd, Nat.reduceMul, Nat.reduceSub, kont_v, AV.cells_i, AV.cells_s, AV.cells_b, AV.cells_agg, AV.cells_sl, hd, encB.iadr (kk := 1) hv rfl rfl hlt, encB.load_f (kk := 1) (o := 0) rfl hx (by decide), show (encB.enc x)[0]? = some (.b x) from rfl]
        cases x with
        | true =>
          obtain ⟨s', hi', hr⟩ := hround a s i ha hal hlt
          obtain ⟨s2, h1, h2⟩ := ih' (a ++ [i]) s' hi' (by simp; omega)
          refine ⟨s2, by simpa [trues] using h1, ?_⟩
          simp only [args0, args1, args2, args3, args4, jn_d, jv_d, jr_d, callK_ret, eCond_b, eGuard_b, pPick_b, pUn_not, eLeave_nil, bAdd_i, bSub_i, bMul_i, bQuo_i, bRem_i, bEql_i, bNeq_i, bLss_i, bLeq_i, bGtr_i, bGeq_i, bEql_s, bNeq_s, bLss_s, pInt_i, pLen_s, pLen_sl, pLen_gr, pLen_ns, pLen_sz, pBuild_d, fillK_nil, cond_true, cond_false, Bool.not_true, Bool.not_false, Bool.cond_self, List.length_nil, List.length_cons, List.nil_append, List.cons_append, List.append_nil, List.append_assoc, List.length_append, List.getElem?_cons_zero, List.getElem?_cons_succ, List.drop_succ_cons, List.drop_zero, List.drop_nil, List.take_succ_cons, List.take_zero, List.take_nil, List.set_cons_zero, List.set_cons_succ, Nat.zero_add, Nat.add_zero, Nat.zero_mul, Nat.mul_one, Nat.one_mul, Nat.reduceAdd, Nat.reduceMul, Nat.reduceSub, kont_v, AV.cells_i, AV.cells_s, AV.cells_b, AV.cells_agg, AV.cells_sl, eCallV_fy, hr, hw]
          exact h2
        | false =>
          obtain ⟨s2, h1, h2⟩ := ih' a s ha (by omega)
          refine ⟨s2, by simpa [trues] using h1, ?_⟩
          simp only [args0, args1, args2, args3, args4, jn_d, jv_d, jr_d, callK_ret, eCond_b, eGuard_b, pPick_b, pUn_not, eLeave_nil, bAdd_i, bSub_i, bMul_i, bQuo_i, bRem_i, bEql_i, bNeq_i, bLss_i, bLeq_i, bGtr_i, bGeq_i, bEql_s, bNeq_s, bLss_s, pInt_i, pLen_s, pLen_sl, pLen_gr, pLen_ns, pLen_sz, pBuild_d, fillK_nil, cond_true, cond_false, Bool.not_true, Bool.not_false, Bool.cond_self, List.length_nil, List.length_cons, List.nil_append, List.cons_append, List.append_nil, List.append_assoc, List.length_append, List.getElem?_cons_zero, List.getElem?_cons_succ, List.drop_succ_cons, List.drop_zero, List.drop_nil, List.take_succ_cons, List.take_zero, List.take_nil, List.set_cons_zero, List.set_cons_succ, Nat.zero_add, Nat.add_zero, Nat.zero_mul, Nat.mul_one, Nat.one_mul, Nat.reduceAdd, Nat.reduceMul, Nat.reduceSub, kont_v, AV.cells_i, AV.cells_s, AV.cells_b, AV.cells_agg, AV.cells_sl, hw]
          exact h2
  obtain ⟨s', h1, h2⟩ := key bs 0 30000 [] s (by simp) (by simp) hl h0 (by simp)
  exact ⟨s', by simpa using h1, h2⟩
def markV (l : List Int) (back : Bool) (set : List (Int × Int)) (out : List Bool) (i : Nat) : List Bool :=
  cond ((stepV l back i).2.2 && hasR set (stepV l back i).1) (out.set (stepV l back i).2.1.toNat true) out
def oneV (l : List Int) (back : Bool) (set : List (Int × Int)) (bs : List Bool) : List Bool := (trues bs 0).foldl (markV l back set) (List.replicate (l.length + 1) false)
theorem markV_len (l : List Int) (back : Bool) (set : List (Int × Int)) (out : List Bool) (i : Nat) : (markV l back set out i).length = out.length := by
  unfold markV
  cases ((stepV l back i).2.2 && hasR set (stepV l back i).1) <;> simp
def oneF (I : Ids) : List AV → Option (Nat × Nat × Nat × List AV)
  | [.agg [t, .b back], w, u] => match encR32.decS t, encRange.decS w, encB.decS u with
    | some l, some set, some bs => if l.length < 20000 ∧ set.length < 30000 ∧ bs.length = l.length + 1 then some (I.t 3, l.length + 1, 1, (oneV l back set bs).map .b) else none
    | _, _, _ => none
  | _ => none
theorem stepV_to {l : List Int} {back : Bool} {z : Nat} (hz : z ≤ l.length) (h : (stepV l back z).2.2 = true) : ∃ m : Nat, (stepV l back z).2.1 = (m : Nat) ∧ m ≤ l.length := by
  unfold stepV at h ⊢
  cases back with
  | true =>
    simp only [cond_true] at h ⊢
    split at h
    · cases h
    · rename_i h0
      rw [if_neg h0]
      exact ⟨z - 1, by simp only; omega, by omega⟩
  | false =>
    simp only [cond_false] at h ⊢
    split at h
    · cases h
    · rename_i h0
      rw [if_neg h0]
      exact ⟨z + 1, by simp only; omega, by omega⟩
theorem one_c (I : Ids) (R R1 R2 : Rec) (hnone : ∀ args s, R.f (I.f 4) args s = rowOv (noneF I) R args s) (hall : ∀ args s, R.f (I.f 5) args s = B_mall I R1 args s) (hh : ∀ args s, R.h (I.f 8) args s = B_mall1 I R1 args s)
    (hA : ∀ f s, R1.b 34 (I.x 0) f s = C0_mone I R2 f s) (hB : ∀ f s, R1.b 34 (I.x 1) f s = C1_mone I R2 f s) (hstep : ∀ args s, R2.f (I.f 6) args s = flatOv stepF R2 args s) (hhas : ∀ args s, R2.f (I.f 7) args s = flatOv hasF R2 args s)
    (as : List AV) (T n k : Nat) (cs : List AV) (h : oneF I as = some (T, n, k, cs)) : (n = 0 → Tot (fun v _ => v = .ns) (B_mone I R as (S [] 0))) ∧ (n ≠ 0 → Tot (IsRow Fla T n k cs) (B_mone I R as (S [] 0))) := by
  unfold oneF at h
  split at h
  case h_2 => cases h
  rename_i t back w u0
  split at h
  case h_2 => cases h
  rename_i l set bs hl hs hb
  split at h
  case isFalse => cases h
  rename_i hlen
  obtain ⟨hlen, hsl, hbl⟩ := hlen
  cases h
  refine ⟨fun h => by omega, fun _ => ?_⟩
  -- the store during the rounds
  let ρ : Nat → AV := envL [(3, .p 0 0 2 0 0), (4, .p 1 1 1 0 0), (7, .p 3 3 1 0 0)]
  let lpb : LoopState → Blk := fun q => .loop 6 q none 34 ρ [16] (I.x 0) (I.x 1) 5 5
  let L : LoopState → List Bool → List (Option Blk) := fun q o => [some (.cells 0 false (I.t 2) 0 [t, .b back]), some (.cells 1 false (I.t 4) 0 [w]), some (.cells 2 false (I.t 3) 0 (o.map .b)), some (.cells 3 false (I.t 5) 0 [.gr 2 2 0 (l.length + 1) 1]),
    some (.cells 4 false (I.t 5) 0 [u0]), some (.dfr 5), some (lpb q)]
  have hbody : ∀ (o : List Bool) (z : Nat), o.length = l.length + 1 → z ≤ l.length → C1_mone I R2 (envL [(3, .p 0 0 2 0 0), (4, .p 1 1 1 0 0), (7, .p 3 3 1 0 0), (8, .i .i64 (z : Nat))]) (S (L .busy o) 7) = some (.ex .normal (envL []) (S (L .busy (markV l back set o z)) 7)) := by
    intro o z ho hz
    have g0 : (L .busy o)[0]? = some (some (.cells 0 false (I.t 2) 0 [t, .b back])) := rfl
    have g1 : (L .busy o)[1]? = some (some (.cells 1 false (I.t 4) 0 [w])) := rfl
    have g2 : (L .busy o)[2]? = some (some (.cells 2 false (I.t 3) 0 (o.map .b))) := rfl
    have g3 : (L .busy o)[3]? = some (some (.cells 3 false (I.t 5) 0 [.gr 2 2 0 (l.length + 1) 1])) := rfl
    have c1 : ∀ s, R2.f (I.f 6) [.agg [t, .b back], .i .i64 (z : Nat)] s = some (.ret (.tup [.i .i32 (stepV l back z).1, .i .i64 (stepV l back z).2.1, .b (stepV l back z).2.2]) s) := fun s => by
      rw [hstep]
      refine flatOv_c (by simp only [CloL, Clo, and_self, and_true]; exact encR32.clo_of hl) ?_
      simp only [stepF, hl, Int.toNat_natCast]
      rw [if_pos (by omega)]
    have c2 : ∀ s x, R2.f (I.f 7) [w, .i .i32 x] s = some (.ret (.b (hasR set x)) s) := fun s x => by
      rw [hhas]
      refine flatOv_c (by simp only [CloL, Clo, and_self, and_true]; exact encRange.clo_of hs) ?_
      simp only [hasF, hs, hsl, if_true]
    unfold C1_mone
    show (pLoad (S (L .busy o) 7) true 2 (.p 0 0 2 0 0) fun v6 => callK (R2.f (I.f 6) [v6, .i .i64 (z : Nat)] (S (L .busy o) 7)) _) = _
    rw [pLoad_St g0 rfl (by decide) (by simp)]
    simp only [args0, args1, args2, args3, args4, jn_d, jv_d, jr_d, callK_ret, eCond_b, eGuard_b, pPick_b, pUn_not, eLeave_nil, bAdd_i, bSub_i, bMul_i, bQuo_i, bRem_i, bEql_i, bNeq_i, bLss_i, bLeq_i, bGtr_i, bGeq_i, bEql_s, bNeq_s, bLss_s, pInt_i, pLen_s, pLen_sl, pLen_gr, pLen_ns, pLen_sz, pBuild_d, fillK_nil, cond_true, cond_false, Bool.not_true, Bool.not_false, Bool.cond_self, List.length_nil, List.length_cons, List.nil_append, List.cons_append, List.append_nil, List.append_assoc, List.length_append, List.getElem?_cons_zero, List.getElem?_cons_succ, List.drop_succ_cons, List.drop_zero, List.drop_nil, List.take_succ_cons, List.take_zero, List.take_nil, List.set_cons_zero, List.set_cons_succ, Nat.zero_add, Nat.add_zero, Nat.zero_mul, Nat.mul_one, Nat.one_mul, Nat.reduceAdd, Nat.reduceMul, Nat.reduceSub, kont_v, AV.cells_i, AV.cells_s, AV.cells_b, AV.cells_agg, AV.cells_sl, c1]
    rw [pExt_t rfl, pExt_t rfl, pExt_t rfl]
    simp only [args0, args1, args2, args3, args4, jn_d, jv_d, jr_d, callK_ret, eCond_b, eGuard_b, pPick_b, pUn_not, eLeave_nil, bAdd_i, bSub_i, bMul_i, bQuo_i, bRem_i, bEql_i, bNeq_i, bLss_i, bLeq_i, bGtr_i, bGeq_i, bEql_s, bNeq_s, bLss_s, pInt_i, pLen_s, pLen_sl, pLen_gr, pLen_ns, pLen_sz, pBuild_d, fillK_nil, cond_true, cond_false, Bool.not_true, Bool.not_false, Bool.cond_self, List.length_nil, List.length_cons, List.nil_append, List.cons_append, List.append_nil, List.append_assoc, List.length_append, List.getElem?_cons_zero, List.getElem?_cons_succ, List.drop_succ_cons, List.drop_zero, List.drop_nil, List.take_succ_cons, List.take_zero, List.take_nil, List.set_cons_zero, List.set_cons_succ, Nat.zero_add, Nat.add_zero, Nat.zero_mul, Nat.mul_one, Nat.one_mul, Nat.reduceAdd, Nat.reduceMul, Nat.reduceSub, kont_v, AV.cells_i, AV.cells_s, AV.cells_b, AV.cells_agg, AV.cells_sl]
    unfold markV
    cases hok : (stepV l back z).2.2 with
    | false => simp only [args0, args1, args2, args3, args4, jn_d, jv_d, jr_d, callK_ret, eCond_b, eGuard_b, pPick_b, pUn_not, eLeave_nil, bAdd_i, bSub_i, bMul_i, bQuo_i, bRem_i, bEql_i, bNeq_i, bLss_i, bLeq_i, bGtr_i, bGeq_i, bEql_s, bNeq_s, bLss_s, pInt_i, pLen_s, pLen_sl, pLen_gr, pLen_ns, pLen_sz, pBuild_d, fillK_nil, cond_true, cond_false, Bool.not_true, Bool.not_false, Bool.cond_self, List.length_nil, List.length_cons, List.nil_append, List.cons_append, List.append_nil, List.append_assoc, List.length_append, List.getElem?_cons_zero, List.getElem?_cons_succ, List.drop_succ_cons, List.drop_zero, List.drop_nil, List.take_succ_cons, List.take_zero, List.take_nil, List.set_cons_zero, List.set_cons_succ, Nat.zero_add, Nat.add_zero, Nat.zero_mul, Nat.mul_one, Nat.one_mul, Nat.reduceAdd, Nat.reduceMul, Nat.reduceSub, kont_v, AV.cells_i, AV.cells_s, AV.cells_b, AV.cells_agg, AV.cells_sl, Bool.false_and]
    | true =>
      simp only [args0, args1, args2, args3, args4, jn_d, jv_d, jr_d, callK_ret, eCond_b, eGuard_b, pPick_b, pUn_not, eLeave_nil, bAdd_i, bSub_i, bMul_i, bQuo_i, bRem_i, bEql_i, bNeq_i, bLss_i, bLeq_i, bGtr_i, bGeq_i, bEql_s, bNeq_s, bLss_s, pInt_i, pLen_s, pLen_sl, pLen_gr, pLen_ns, pLen_sz, pBuild_d, fillK_nil, cond_true, cond_false, Bool.not_true, Bool.not_false, Bool.cond_self, List.length_nil, List.length_cons, List.nil_append, List.cons_append, List.append_nil, List.append_assoc, List.length_append, List.getElem?_cons_zero, List.getElem?_cons_succ, List.drop_succ_cons, List.drop_zero, List.drop_nil, List.take_succ_cons, List.take_zero, List.take_nil, List.set_cons_zero, List.set_cons_succ, Nat.zero_add, Nat.add_zero, Nat.zero_mul, Nat.mul_one, Nat.one_mul, Nat.reduceAdd, Nat.reduceMul, Nat.reduceSub, kont_v, AV.cells_i, AV.cells_s, AV.cells_b, AV.cells_agg, AV.cells_sl, Bool.true_and]
      rw [pLoad_Sf g1 rfl (by decide) (by simp)]
      simp only [args0, args1, args2, args3, args4, jn_d, jv_d, jr_d, callK_ret, eCond_b, eGuard_b, pPick_b, pUn_not, eLeave_nil, bAdd_i, bSub_i, bMul_i, bQuo_i, bRem_i, bEql_i, bNeq_i, bLss_i, bLeq_i, bGtr_i, bGeq_i, bEql_s, bNeq_s, bLss_s, pInt_i, pLen_s, pLen_sl, pLen_gr, pLen_ns, pLen_sz, pBuild_d, fillK_nil, cond_true, cond_false, Bool.not_true, Bool.not_false, Bool.cond_self, List.length_nil, List.length_cons, List.nil_append, List.cons_append, List.append_nil, List.append_assoc, List.length_append, List.getElem?_cons_zero, List.getElem?_cons_succ, List.drop_succ_cons, List.drop_zero, List.drop_nil, List.take_succ_cons, List.take_zero, List.take_nil, List.set_cons_zero, List.set_cons_succ, Nat.zero_add, Nat.add_zero, Nat.zero_mul, Nat.mul_one, Nat.one_mul, Nat.reduceAdd, Nat.reduceMul, Nat.reduceSub, kont_v, AV.cells_i, AV.cells_s, AV.cells_b, AV.cells_agg, AV.cells_sl, c2]
      cases hasR set (stepV l back z).1 with
      | false => simp only [args0, args1, args2, args3, args4, jn_d, jv_d, jr_d, callK_ret, eCond_b, eGuard_b, pPick_b, pUn_not, eLeave_nil, bAdd_i, bSub_i, bMul_i, bQuo_i, bRem_i, bEql_i, bNeq_i, bLss_i, bLeq_i, bGtr_i, bGeq_i, bEql_s, bNeq_s, bLss_s, pInt_i, pLen_s, pLen_sl, pLen_gr, pLen_ns, pLen_sz, pBuild_d, fillK_nil, cond_true, cond_false, Bool.not_true, Bool.not_false, Bool.cond_self, List.length_nil, List.length_cons, List.nil_append, List.cons_append, List.append_nil, List.append_assoc, List.length_append, List.getElem?_cons_zero, List.getElem?_cons_succ, List.drop_succ_cons, List.drop_zero, List.drop_nil, List.take_succ_cons, List.take_zero, List.take_nil, List.set_cons_zero, List.set_cons_succ, Nat.zero_add, Nat.add_zero, Nat.zero_mul, Nat.mul_one, Nat.one_mul, Nat.reduceAdd, Nat.reduceMul, Nat.reduceSub, kont_v, AV.cells_i, AV.cells_s, AV.cells_b, AV.cells_agg, AV.cells_sl]
      | true =>
        obtain ⟨m, hm, hml⟩ := stepV_to hz hok
        simp only [args0, args1, args2, args3, args4, jn_d, jv_d, jr_d, callK_ret, eCond_b, eGuard_b, pPick_b, pUn_not, eLeave_nil, bAdd_i, bSub_i, bMul_i, bQuo_i, bRem_i, bEql_i, bNeq_i, bLss_i, bLeq_i, bGtr_i, bGeq_i, bEql_s, bNeq_s, bLss_s, pInt_i, pLen_s, pLen_sl, pLen_gr, pLen_ns, pLen_sz, pBuild_d, fillK_nil, cond_true, cond_false, Bool.not_true, Bool.not_false, Bool.cond_self, List.length_nil, List.length_cons, List.nil_append, List.cons_append, List.append_nil, List.append_assoc, List.length_append, List.getElem?_cons_zero, List.getElem?_cons_succ, List.drop_succ_cons, List.drop_zero, List.drop_nil, List.take_succ_cons, List.take_zero, List.take_nil, List.set_cons_zero, List.set_cons_succ, Nat.zero_add, Nat.add_zero, Nat.zero_mul, Nat.mul_one, Nat.one_mul, Nat.reduceAdd, Nat.reduceMul, Nat.reduceSub, kont_v, AV.cells_i, AV.cells_s, AV.cells_b, AV.cells_agg, AV.cells_sl]
        rw [pLoad_Sf g3 rfl (by decide) (by simp)]
        simp only [args0, args1, args2, args3, args4, jn_d, jv_d, jr_d, callK_ret, eCond_b, eGuard_b, pPick_b, pUn_not, eLeave_nil, bAdd_i, bSub_i, bMul_i, bQuo_i, bRem_i, bEql_i, bNeq_i, bLss_i, bLeq_i, bGtr_i, bGeq_i, bEql_s, bNeq_s, bLss_s, pInt_i, pLen_s, pLen_sl, pLen_gr, pLen_ns, pLen_sz, pBuild_d, fillK_nil, cond_true, cond_false, Bool.not_true, Bool.not_false, Bool.cond_self, List.length_nil, List.length_cons, List.nil_append, List.cons_append, List.append_nil, List.append_assoc, List.length_append, List.getElem?_cons_zero, List.getElem?_cons_succ, List.drop_succ_cons, List.drop_zero, List.drop_nil, List.take_succ_cons, List.take_zero, List.take_nil, List.set_cons_zero, List.set_cons_succ, Nat.zero_add, Nat.add_zero, Nat.zero_mul, Nat.mul_one, Nat.one_mul, Nat.reduceAdd, Nat.reduceMul, Nat.reduceSub, kont_v, AV.cells_i, AV.cells_s, AV.cells_b, AV.cells_agg, AV.cells_sl, hm]
        rw [pIadrS_gr g2 rfl rfl (by omega), pStore_S (n := 1) (kk := 1) g2 rfl (AV.cells_b _) rfl (by decide) (by simp; omega) (by simp [L])]
        simp only [Int.toNat_natCast, Nat.zero_add, Nat.mul_one, Nat.add_zero, List.length_cons, List.length_nil]
        have : List.take m (o.map AV.b) ++ ([AV.b true] ++ List.drop (m + 1) (o.map AV.b)) = (o.set m true).map .b := by
          rw [List.map_set, List.set_eq_take_append_cons_drop, if_pos (by simp; omega)]
          rfl
        rw [this]
        rfl
  let Inv : List Nat → ES → Prop := fun a s => (∀ z ∈ a, z ≤ l.length) ∧ s = S (L .ready (a.foldl (markV l back set) (List.replicate (l.length + 1) false))) 7
  have hfl : ∀ (a : List Nat) (o : List Bool), (a.foldl (markV l back set) o).length = o.length := by
    intro a
    induction a with
    | nil => intro o; rfl
    | cons z a ih => intro o; rw [List.foldl_cons, ih, markV_len]
  have hround : ∀ a s z, Inv a s → a.length ≤ z → z < bs.length → ∃ s', Inv (a ++ [z]) s' ∧ ∀ k, eRound R1.b 6 6 [.i .i64 (z : Nat)] s k = k (.b true) s' := by
    rintro a s z ⟨ha, rfl⟩ _ hz
    refine ⟨_, ⟨fun y hy => ?_, rfl⟩, fun k => ?_⟩
    · rcases List.mem_append.1 hy with hy | hy
      · exact ha y hy
      · rw [List.mem_singleton.1 hy]; omega
    · rw [round_S (l1 := L .ready (a.foldl (markV l back set) (List.replicate (l.length + 1) false))) (nx1 := 7) (N := 34) (ρ := ρ) (ps := [16]) (xa := I.x 0) (xb := I.x 1) (dr := 5) (ds := 5) (l2 := L .busy (markV l back set (a.foldl (markV l back set) (List.replicate (l.length + 1) false)) z)) (nx2 := 7) rfl rfl (by rw [hA]; rfl) rfl (by simp [L])
        (by rw [hB]; exact hbody _ z (by rw [hfl]; simp) (by omega)) rfl (by simp [L])]
      simp only [List.foldl_append, List.foldl_cons, List.foldl_nil]
      rfl
  have hrun : B_mone I R [.agg [t, .b back], w, u0] (S [] 0) = some (.ret (.gr 2 2 0 (l.length + 1) 1) (S [some (.cells 0 false (I.t 2) 0 [t, .b back]), some (.cells 1 false (I.t 4) 0 [w]), some (.cells 2 false (I.t 3) 0 ((oneV l back set bs).map .b)), some (.cells 3 false (I.t 5) 0 [.gr 2 2 0 (l.length + 1) 1]),
      some (.cells 4 false (I.t 5) 0 [u0]), none, none] 7)) := by
    have ht : Clo t := encR32.clo_of hl
    have n1 : ∀ (σ : List (Option Blk)) (nx : Nat), σ.length ≤ 999999999 → rowOv (noneF I) R [.agg [t, .b back]] (S σ nx) = some (.ret (.gr σ.length nx 0 (l.length + 1) 1) (S (σ ++ [some (.cells nx false (I.t 3) 0 (List.replicate (l.length + 1) (.b false)))]) (nx + 1))) := fun σ nx hσ =>
      rowOv_S (mapO_clo (by simp only [CloL, Clo, and_self, and_true]; exact ht)) (by simp only [noneF, hl]; rw [if_pos (by omega)]) (by simp) hσ
    have hrep : List.replicate (l.length + 1) (AV.b false) = (List.replicate (l.length + 1) false).map .b := by simp
    obtain ⟨s', ⟨_, rfl⟩, hiter⟩ := mall1_iter (I := I) (R := R1) (cap := .p 4 4 1 0 0) (r := 6) (st := 6) hb (by omega) Inv hround (S (L .ready (List.replicate (l.length + 1) false)) 7) ⟨by simp, rfl⟩
      (fun k => by rw [pLoad_Sf (l := L .ready (List.replicate (l.length + 1) false)) (r := 4) (st' := 4) (cs := [u0]) (T := I.t 5) (fz := 0) rfl rfl (by decide) (by simp)]; rfl)
    unfold B_mone
    rw [args3, pBox_S (AV.cells_agg _) (by simp)]
    simp only [args0, args1, args2, args3, args4, jn_d, jv_d, jr_d, callK_ret, eCond_b, eGuard_b, pPick_b, pUn_not, eLeave_nil, bAdd_i, bSub_i, bMul_i, bQuo_i, bRem_i, bEql_i, bNeq_i, bLss_i, bLeq_i, bGtr_i, bGeq_i, bEql_s, bNeq_s, bLss_s, pInt_i, pLen_s, pLen_sl, pLen_gr, pLen_ns, pLen_sz, pBuild_d, fillK_nil, cond_true, cond_false, Bool.not_true, Bool.not_false, Bool.cond_self, List.length_nil, List.length_cons, List.nil_append, List.cons_append, List.append_nil, List.append_assoc, List.length_append, List.getElem?_cons_zero, List.getElem?_cons_succ, List.drop_succ_cons, List.drop_zero, List.drop_nil, List.take_succ_cons, List.take_zero, List.take_nil, List.set_cons_zero, List.set_cons_succ, Nat.zero_add, Nat.add_zero, Nat.zero_mul, Nat.mul_one, Nat.one_mul, Nat.reduceAdd, Nat.reduceMul, Nat.reduceSub, kont_v, AV.cells_i, AV.cells_s, AV.cells_b, AV.cells_agg, AV.cells_sl]
    rw [pBox_S (encRange.cells_of hs) (by simp)]
    simp only [args0, args1, args2, args3, args4, jn_d, jv_d, jr_d, callK_ret, eCond_b, eGuard_b, pPick_b, pUn_not, eLeave_nil, bAdd_i, bSub_i, bMul_i, bQuo_i, bRem_i, bEql_i, bNeq_i, bLss_i, bLeq_i, bGtr_i, bGeq_i, bEql_s, bNeq_s, bLss_s, pInt_i, pLen_s, pLen_sl, pLen_gr, pLen_ns, pLen_sz, pBuild_d, fillK_nil, cond_true, cond_false, Bool.not_true, Bool.not_false, Bool.cond_self, List.length_nil, List.length_cons, List.nil_append, List.cons_append, List.append_nil, List.append_assoc, List.length_append, List.getElem?_cons_zero, List.getElem?_cons_succ, List.drop_succ_cons, List.drop_zero, List.drop_nil, List.take_succ_cons, List.take_zero, List.take_nil, List.set_cons_zero, List.set_cons_succ, Nat.zero_add, Nat.add_zero, Nat.zero_mul, Nat.mul_one, Nat.one_mul, Nat.reduceAdd, Nat.reduceMul, Nat.reduceSub, kont_v, AV.cells_i, AV.cells_s, AV.cells_b, AV.cells_agg, AV.cells_sl]
    rw [pLoad_St (l := [some (.cells 0 false (I.t 2) 0 [t, .b back]), some (.cells 1 false (I.t 4) 0 [w])]) (r := 0) rfl rfl (by decide) (by simp)]
    simp only [args0, args1, args2, args3, args4, jn_d, jv_d, jr_d, callK_ret, eCond_b, eGuard_b, pPick_b, pUn_not, eLeave_nil, bAdd_i, bSub_i, bMul_i, bQuo_i, bRem_i, bEql_i, bNeq_i, bLss_i, bLeq_i, bGtr_i, bGeq_i, bEql_s, bNeq_s, bLss_s, pInt_i, pLen_s, pLen_sl, pLen_gr, pLen_ns, pLen_sz, pBuild_d, fillK_nil, cond_true, cond_false, Bool.not_true, Bool.not_false, Bool.cond_self, List.length_nil, List.length_cons, List.nil_append, List.cons_append, List.append_nil, List.append_assoc, List.length_append, List.getElem?_cons_zero, List.getElem?_cons_succ, List.drop_succ_cons, List.drop_zero, List.drop_nil, List.take_succ_cons, List.take_zero, List.take_nil, List.set_cons_zero, List.set_cons_succ, Nat.zero_add, Nat.add_zero, Nat.zero_mul, Nat.mul_one, Nat.one_mul, Nat.reduceAdd, Nat.reduceMul, Nat.reduceSub, kont_v, AV.cells_i, AV.cells_s, AV.cells_b, AV.cells_agg, AV.cells_sl, hnone]
    rw [n1 _ _ (by simp)]
    simp only [args0, args1, args2, args3, args4, jn_d, jv_d, jr_d, callK_ret, eCond_b, eGuard_b, pPick_b, pUn_not, eLeave_nil, bAdd_i, bSub_i, bMul_i, bQuo_i, bRem_i, bEql_i, bNeq_i, bLss_i, bLeq_i, bGtr_i, bGeq_i, bEql_s, bNeq_s, bLss_s, pInt_i, pLen_s, pLen_sl, pLen_gr, pLen_ns, pLen_sz, pBuild_d, fillK_nil, cond_true, cond_false, Bool.not_true, Bool.not_false, Bool.cond_self, List.length_nil, List.length_cons, List.nil_append, List.cons_append, List.append_nil, List.append_assoc, List.length_append, List.getElem?_cons_zero, List.getElem?_cons_succ, List.drop_succ_cons, List.drop_zero, List.drop_nil, List.take_succ_cons, List.take_zero, List.take_nil, List.set_cons_zero, List.set_cons_succ, Nat.zero_add, Nat.add_zero, Nat.zero_mul, Nat.mul_one, Nat.one_mul, Nat.reduceAdd, Nat.reduceMul, Nat.reduceSub, kont_v, AV.cells_i, AV.cells_s, AV.cells_b, AV.cells_agg, AV.cells_sl]
    rw [pRow_S (by simp)]
    simp only [args0, args1, args2, args3, args4, jn_d, jv_d, jr_d, callK_ret, eCond_b, eGuard_b, pPick_b, pUn_not, eLeave_nil, bAdd_i, bSub_i, bMul_i, bQuo_i, bRem_i, bEql_i, bNeq_i, bLss_i, bLeq_i, bGtr_i, bGeq_i, bEql_s, bNeq_s, bLss_s, pInt_i, pLen_s, pLen_sl, pLen_gr, pLen_ns, pLen_sz, pBuild_d, fillK_nil, cond_true, cond_false, Bool.not_true, Bool.not_false, Bool.cond_self, List.length_nil, List.length_cons, List.nil_append, List.cons_append, List.append_nil, List.append_assoc, List.length_append, List.getElem?_cons_zero, List.getElem?_cons_succ, List.drop_succ_cons, List.drop_zero, List.drop_nil, List.take_succ_cons, List.take_zero, List.take_nil, List.set_cons_zero, List.set_cons_succ, Nat.zero_add, Nat.add_zero, Nat.zero_mul, Nat.mul_one, Nat.one_mul, Nat.reduceAdd, Nat.reduceMul, Nat.reduceSub, kont_v, AV.cells_i, AV.cells_s, AV.cells_b, AV.cells_agg, AV.cells_sl]
    rw [pStore_S (n := 1) (kk := 1) (l := [some (.cells 0 false (I.t 2) 0 [t, .b back]), some (.cells 1 false (I.t 4) 0 [w]), some (.cells 2 false (I.t 3) 0 (List.replicate (l.length + 1) (.b false))), some (.cells 3 false (I.t 5) 0 [.ns])]) (r := 3) rfl rfl rfl rfl (by decide) (by simp) (by simp)]
    simp only [args0, args1, args2, args3, args4, jn_d, jv_d, jr_d, callK_ret, eCond_b, eGuard_b, pPick_b, pUn_not, eLeave_nil, bAdd_i, bSub_i, bMul_i, bQuo_i, bRem_i, bEql_i, bNeq_i, bLss_i, bLeq_i, bGtr_i, bGeq_i, bEql_s, bNeq_s, bLss_s, pInt_i, pLen_s, pLen_sl, pLen_gr, pLen_ns, pLen_sz, pBuild_d, fillK_nil, cond_true, cond_false, Bool.not_true, Bool.not_false, Bool.cond_self, List.length_nil, List.length_cons, List.nil_append, List.cons_append, List.append_nil, List.append_assoc, List.length_append, List.getElem?_cons_zero, List.getElem?_cons_succ, List.drop_succ_cons, List.drop_zero, List.drop_nil, List.take_succ_cons, List.take_zero, List.take_nil, List.set_cons_zero, List.set_cons_succ, Nat.zero_add, Nat.add_zero, Nat.zero_mul, Nat.mul_one, Nat.one_mul, Nat.reduceAdd, Nat.reduceMul, Nat.reduceSub, kont_v, AV.cells_i, AV.cells_s, AV.cells_b, AV.cells_agg, AV.cells_sl, hall]
    unfold B_mall
    rw [args1, pBox_S (encB.cells_of hb) (by simp)]
    simp only [args0, args1, args2, args3, args4, jn_d, jv_d, jr_d, callK_ret, eCond_b, eGuard_b, pPick_b, pUn_not, eLeave_nil, bAdd_i, bSub_i, bMul_i, bQuo_i, bRem_i, bEql_i, bNeq_i, bLss_i, bLeq_i, bGtr_i, bGeq_i, bEql_s, bNeq_s, bLss_s, pInt_i, pLen_s, pLen_sl, pLen_gr, pLen_ns, pLen_sz, pBuild_d, fillK_nil, cond_true, cond_false, Bool.not_true, Bool.not_false, Bool.cond_self, List.length_nil, List.length_cons, List.nil_append, List.cons_append, List.append_nil, List.append_assoc, List.length_append, List.getElem?_cons_zero, List.getElem?_cons_succ, List.drop_succ_cons, List.drop_zero, List.drop_nil, List.take_succ_cons, List.take_zero, List.take_nil, List.set_cons_zero, List.set_cons_succ, Nat.zero_add, Nat.add_zero, Nat.zero_mul, Nat.mul_one, Nat.one_mul, Nat.reduceAdd, Nat.reduceMul, Nat.reduceSub, kont_v, AV.cells_i, AV.cells_s, AV.cells_b, AV.cells_agg, AV.cells_sl]
    rw [pRange_S rfl (by simp)]
    simp only [args0, args1, args2, args3, args4, jn_d, jv_d, jr_d, callK_ret, eCond_b, eGuard_b, pPick_b, pUn_not, eLeave_nil, bAdd_i, bSub_i, bMul_i, bQuo_i, bRem_i, bEql_i, bNeq_i, bLss_i, bLeq_i, bGtr_i, bGeq_i, bEql_s, bNeq_s, bLss_s, pInt_i, pLen_s, pLen_sl, pLen_gr, pLen_ns, pLen_sz, pBuild_d, fillK_nil, cond_true, cond_false, Bool.not_true, Bool.not_false, Bool.cond_self, List.length_nil, List.length_cons, List.nil_append, List.cons_append, List.append_nil, List.append_assoc, List.length_append, List.getElem?_cons_zero, List.getElem?_cons_succ, List.drop_succ_cons, List.drop_zero, List.drop_nil, List.take_succ_cons, List.take_zero, List.take_nil, List.set_cons_zero, List.set_cons_succ, Nat.zero_add, Nat.add_zero, Nat.zero_mul, Nat.mul_one, Nat.one_mul, Nat.reduceAdd, Nat.reduceMul, Nat.reduceSub, kont_v, AV.cells_i, AV.cells_s, AV.cells_b, AV.cells_agg, AV.cells_sl, hh]
    rw [hrep]
    show callK (B_mall1 I R1 [.fy 6 6, .p 4 4 1 0 0] (S (L .ready (List.replicate (l.length + 1) false)) 7)) _ = _
    rw [hiter]
    simp only [args0, args1, args2, args3, args4, jn_d, jv_d, jr_d, callK_ret, eCond_b, eGuard_b, pPick_b, pUn_not, eLeave_nil, bAdd_i, bSub_i, bMul_i, bQuo_i, bRem_i, bEql_i, bNeq_i, bLss_i, bLeq_i, bGtr_i, bGeq_i, bEql_s, bNeq_s, bLss_s, pInt_i, pLen_s, pLen_sl, pLen_gr, pLen_ns, pLen_sz, pBuild_d, fillK_nil, cond_true, cond_false, Bool.not_true, Bool.not_false, Bool.cond_self, List.length_nil, List.length_cons, List.nil_append, List.cons_append, List.append_nil, List.append_assoc, List.length_append, List.getElem?_cons_zero, List.getElem?_cons_succ, List.drop_succ_cons, List.drop_zero, List.drop_nil, List.take_succ_cons, List.take_zero, List.take_nil, List.set_cons_zero, List.set_cons_succ, Nat.zero_add, Nat.add_zero, Nat.zero_mul, Nat.mul_one, Nat.one_mul, Nat.reduceAdd, Nat.reduceMul, Nat.reduceSub, kont_v, AV.cells_i, AV.cells_s, AV.cells_b, AV.cells_agg, AV.cells_sl]
    rw [eRangeEnd_S (l := L .ready _) rfl (by simp [L])]
    unfold B_monej1
    rw [pLoad_Sf (r := 3) (st' := 3) (cs := [.gr 2 2 0 (l.length + 1) 1]) (T := I.t 5) (fz := 0) rfl rfl (by decide) (by simp)]
    simp only [args0, args1, args2, args3, args4, jn_d, jv_d, jr_d, callK_ret, eCond_b, eGuard_b, pPick_b, pUn_not, eLeave_nil, bAdd_i, bSub_i, bMul_i, bQuo_i, bRem_i, bEql_i, bNeq_i, bLss_i, bLeq_i, bGtr_i, bGeq_i, bEql_s, bNeq_s, bLss_s, pInt_i, pLen_s, pLen_sl, pLen_gr, pLen_ns, pLen_sz, pBuild_d, fillK_nil, cond_true, cond_false, Bool.not_true, Bool.not_false, Bool.cond_self, List.length_nil, List.length_cons, List.nil_append, List.cons_append, List.append_nil, List.append_assoc, List.length_append, List.getElem?_cons_zero, List.getElem?_cons_succ, List.drop_succ_cons, List.drop_zero, List.drop_nil, List.take_succ_cons, List.take_zero, List.take_nil, List.set_cons_zero, List.set_cons_succ, Nat.zero_add, Nat.add_zero, Nat.zero_mul, Nat.mul_one, Nat.one_mul, Nat.reduceAdd, Nat.reduceMul, Nat.reduceSub, kont_v, AV.cells_i, AV.cells_s, AV.cells_b, AV.cells_agg, AV.cells_sl]
    rw [eLeave_S (r := 5) (st := 5) rfl (by simp [L])]
    rfl
  rw [hrun]
  refine Tot.ret ⟨2, 2, 2, _, rfl, ?_, InlL.same ?_⟩
  · rw [S_st]; rfl
  · rw [FlaL_iff]
    intro x hx
    obtain ⟨b, _, rfl⟩ := List.mem_map.1 hx
    simp only [Fla]
end Hb
end

section
set_option linter.unusedVariables false
set_option linter.unusedSimpArgs false
set_option linter.constructorNameAsVariable false
set_option autoImplicit false
set_option linter.unusedVariables false
set_option linter.unusedSimpArgs false
set_option linter.constructorNameAsVariable false
namespace Hb
open Go
theorem cellsK_gr {l : List (Option Blk)} {nx r st st' T fz n kk : Nat} {cs : List AV} {k : Nat → List AV → Res} (h : l[r]? = some (some (.cells st' false T fz cs))) (hst : st' = st) (hle : n * kk ≤ cs.length) :
    cellsK (S l nx) kk (.gr r st 0 n kk) k = k n (cs.take (n * kk)) := by
  show cond (Nat.beq kk kk) (sAt (S l nx) r st fun b => (match b with
      | .cells _ true _ _ _ => k 0 []
      | .cells _ false _ _ cs => cond (Nat.ble (Nat.add (Nat.mul 0 kk) (Nat.mul n kk)) (lenR cs)) (dropK cs (Nat.mul 0 kk) fun d => takeK d (Nat.mul n kk) fun l => k n l) none
      | _ => none)) none = _
  rw [S_sAt h hst, beqN]
  have e : Nat.mul 0 kk = 0 := Nat.zero_mul _
  have e2 : Nat.add 0 (Nat.mul n kk) = n * kk := Nat.zero_add _
  simp only [decide_true, cond_true, e, e2, lenR_eq, Nat.ble_eq_true_of_le hle, dropK_eq, takeK_eq, List.drop_zero]
  rfl
theorem cellsK_sl {s : ES} {n kk : Nat} {cs : List AV} {k : Nat → List AV → Res} : cellsK s kk (.sl kk n cs) k = k n cs := by
  show cond (Nat.beq kk kk) (k n cs) none = _
  rw [beqN]; simp
theorem pApp_nsS {l : List (Option Blk)} {nx T kk m : Nat} {new : List AV} {k : KV} (hm0 : 0 < m) (hm : m ≤ 1048576) (hl : l.length ≤ 999999999) :
    pApp (S l nx) T kk .ns m new k = k (.gr l.length nx 0 m kk) (S (l ++ [some (.cells nx false T 0 new)]) (nx + 1)) := by
  show cond (Nat.ble m 1048576) (pPush (S l nx) (fun x => .cells x (Nat.beq m 0) T 0 new) fun r x s' => k (.gr r x 0 m kk) s') none = _
  rw [Nat.ble_eq_true_of_le hm, cond_true, S_push hl, beqN, decide_eq_false (by omega)]
theorem pApp_grS {l : List (Option Blk)} {nx r st st' T kk n m : Nat} {old new : List AV} {k : KV} (h : l[r]? = some (some (.cells st' false T 0 old))) (hst : st' = st) (hlen : old.length = n * kk) (hm0 : 0 < m) (hm : m ≤ 1048576) (hn : n ≤ 1048576) (hl : l.length ≤ 999999999) :
    pApp (S l nx) T kk (.gr r st 0 n kk) m new k = k (.gr r nx 0 (n + m) kk) (S (l.set r (some (.cells nx false T 0 (old ++ new)))) (nx + 1)) := by
  show cond (Nat.ble m 1048576) (cond (Nat.beq kk kk) (cond (Nat.ble n 1048576) (sAt (S l nx) r st fun b => (match b with
      | .cells _ true _ _ _ => cond (Nat.beq m 0) (k (.gr r st 0 n kk) (S l nx)) (pPut1 (S l nx) r (fun x => .cells x false T 0 new) fun x s' => k (.gr r x 0 m kk) s')
      | .cells _ false T' fz old => cond (Nat.beq m 0) (k (.gr r st 0 n kk) (S l nx))
          (cond (Nat.beq T' T) (cond (Nat.beq 0 0)
            (cond (Nat.ble (Nat.mul n kk) (lenR old)) (cond (Nat.ble fz (Nat.succ (Nat.mul n kk))) (appK (cnl (Nat.beq (Nat.mul n kk) (lenR old)) old (takeR old (Nat.mul n kk))) new fun all => frcN (Nat.add n m) fun nm =>
              pPut1 (S l nx) r (fun x => .cells x false T fz all) fun x s' => k (.gr r x 0 nm kk) s') none) none)
            (cond (Nat.ble (Nat.add (Nat.mul 0 kk) (Nat.mul n kk)) (lenR old)) (cond (Nat.ble fz 1) (appK (takeR (dropR old (Nat.mul 0 kk)) (Nat.mul n kk)) new fun all => frcN (Nat.add n m) fun nm =>
              pPut1 (S l nx) r (fun x => .cells x false T 1 all) fun x s' => k (.gr r x 0 nm kk) s') none) none)) none)
      | _ => none)) none) none) none = _
  have e1 : Nat.beq kk kk = true := by rw [beqN]; simp
  have e3 : Nat.beq T T = true := by rw [beqN]; simp
  have e4 : Nat.beq m 0 = false := by rw [beqN]; exact decide_eq_false (by omega)
  have e5 : Nat.ble 0 (Nat.succ (Nat.mul n kk)) = true := rfl
  have e6 : Nat.ble (Nat.mul n kk) (lenR old) = true := by rw [lenR_eq]; exact Nat.ble_eq_true_of_le (by rw [hlen]; exact Nat.le_refl _)
  rw [Nat.ble_eq_true_of_le hm, e1, Nat.ble_eq_true_of_le hn, cond_true, cond_true, cond_true, S_sAt h hst]
  simp only [e4, cond_false, e3, cond_true, show Nat.beq 0 0 = true from rfl, e6, e5, cnl_eq, appK_eq, frcN_eq]
  rw [S_put1 ((List.getElem?_eq_some_iff.1 h).1) hl, List.take_of_length_le (by rw [hlen]; exact Nat.le_refl _)]
  rfl
section
variable (I : Ids)
def colV (x : Nat) (a : List Int) : AV := match a with
  | [] => .ns
  | _ => .gr 4 x 0 a.length 1
noncomputable def colL (q : LoopState) (a : List Int) (x : Nat) (lit : Option Blk) (g : List (Option Blk)) : List (Option Blk) :=
  some (.cells 0 false (I.t 12) 0 [colV x a]) :: some (.dfr 1) :: some (.loop 2 q none 13 (envL [(2, .p 0 0 1 0 0)]) [7] (I.x 2) (I.x 3) 1 1) ::
    (match a with
    | [] => []
    | _ => lit :: some (.cells x false (I.t 10) 0 (a.map (.i .i64))) :: g)
def ColInv (a : List Int) (s : ES) : Prop := ∃ x lit g nx, g.length ≤ a.length ∧ s = S (colL I .ready a x lit g) nx ∧ (a = [] → nx = 3)
theorem col_round {R1 R2 : Rec} (hA : ∀ f s, R1.b 13 (I.x 2) f s = C0_AppSeqI I R2 f s) (hB : ∀ f s, R1.b 13 (I.x 3) f s = C1_AppSeqI I R2 f s) {a : List Int} {s : ES} {z : Int} (h : ColInv I a s) (ha : a.length < 1000000) :
    ∃ s', ColInv I (a ++ [z]) s' ∧ ∀ k, eRound R1.b 2 2 [.i .i64 z] s k = k (.b true) s' := by
  obtain ⟨x, lit, g, nx, hg, rfl, h3⟩ := h
  cases a with
  | nil =>
    have hb : C1_AppSeqI I R2 (envL [(2, .p 0 0 1 0 0), (5, .i .i64 z)]) (S (colL I .busy [] x lit g) nx) = some (.ex .normal (envL []) (S (colL I .busy [z] (nx + 1) (some (.cells nx false (I.t 10) 0 [.i .i64 z])) []) (nx + 1 + 1))) := by
      unfold C1_AppSeqI
      show (pLoad (S (colL I .busy [] x lit g) nx) false 1 (.p 0 0 1 0 0) fun v4 => pLit (S (colL I .busy [] x lit g) nx) (I.t 10) 1 1 [(.i .i64 0)] [(0,1,.i .i64 z)] fun v5 s6 => pAppend s6 (I.t 10) 1 v4 v5 fun v7 s8 => pStore s8 1 (.p 0 0 1 0 0) v7 fun v9 s10 => some (.ex .normal (envL []) s10)) = _
      rw [pLoad_Sf (r := 0) (st' := 0) (cs := [.ns]) (T := I.t 12) (fz := 0) rfl rfl (by decide) (by simp)]
      simp only [args0, args1, args2, args3, args4, jn_d, jv_d, jr_d, callK_ret, eCond_b, eGuard_b, pPick_b, pUn_not, eLeave_nil, bAdd_i, bSub_i, bMul_i, bQuo_i, bRem_i, bEql_i, bNeq_i, bLss_i, bLeq_i, bGtr_i, bGeq_i, bEql_s, bNeq_s, bLss_s, pInt_i, pLen_s, pLen_sl, pLen_gr, pLen_ns, pLen_sz, pBuild_d, fillK_nil, cond_true, cond_false, Bool.not_true, Bool.not_false, Bool.cond_self, List.length_nil, List.length_cons, List.nil_append, List.cons_append, List.append_nil, List.append_assoc, List.length_append, List.getElem?_cons_zero, List.getElem?_cons_succ, List.drop_succ_cons, List.drop_zero, List.drop_nil, List.take_succ_cons, List.take_zero, List.take_nil, List.set_cons_zero, List.set_cons_succ, Nat.zero_add, Nat.add_zero, Nat.zero_mul, Nat.mul_one, Nat.one_mul, Nat.reduceAdd, Nat.reduceMul, Nat.reduceSub, kont_v, AV.cells_i, AV.cells_s, AV.cells_b, AV.cells_agg, AV.cells_sl]
      rw [pLit_S (by simp [colL]), fillK_cons (AV.cells_i _ _) (by rfl) (by simp)]
      simp only [args0, args1, args2, args3, args4, jn_d, jv_d, jr_d, callK_ret, eCond_b, eGuard_b, pPick_b, pUn_not, eLeave_nil, bAdd_i, bSub_i, bMul_i, bQuo_i, bRem_i, bEql_i, bNeq_i, bLss_i, bLeq_i, bGtr_i, bGeq_i, bEql_s, bNeq_s, bLss_s, pInt_i, pLen_s, pLen_sl, pLen_gr, pLen_ns, pLen_sz, pBuild_d, fillK_nil, cond_true, cond_false, Bool.not_true, Bool.not_false, Bool.cond_self, List.length_nil, List.length_cons, List.nil_append, List.cons_append, List.append_nil, List.append_assoc, List.length_append, List.getElem?_cons_zero, List.getElem?_cons_succ, List.drop_succ_cons, List.drop_zero, List.drop_nil, List.take_succ_cons, List.take_zero, List.take_nil, List.set_cons_zero, List.set_cons_succ, Nat.zero_add, Nat.add_zero, Nat.zero_mul, Nat.mul_one, Nat.one_mul, Nat.reduceAdd, Nat.reduceMul, Nat.reduceSub, kont_v, AV.cells_i, AV.cells_s, AV.cells_b, AV.cells_agg, AV.cells_sl]
      unfold pAppend
      rw [cellsK_gr (r := (colL I .busy [] x lit g).length) (st' := nx) (T := I.t 10) (fz := 0) (cs := [.i .i64 z]) (by simp) rfl (by simp)]
      simp only [args0, args1, args2, args3, args4, jn_d, jv_d, jr_d, callK_ret, eCond_b, eGuard_b, pPick_b, pUn_not, eLeave_nil, bAdd_i, bSub_i, bMul_i, bQuo_i, bRem_i, bEql_i, bNeq_i, bLss_i, bLeq_i, bGtr_i, bGeq_i, bEql_s, bNeq_s, bLss_s, pInt_i, pLen_s, pLen_sl, pLen_gr, pLen_ns, pLen_sz, pBuild_d, fillK_nil, cond_true, cond_false, Bool.not_true, Bool.not_false, Bool.cond_self, List.length_nil, List.length_cons, List.nil_append, List.cons_append, List.append_nil, List.append_assoc, List.length_append, List.getElem?_cons_zero, List.getElem?_cons_succ, List.drop_succ_cons, List.drop_zero, List.drop_nil, List.take_succ_cons, List.take_zero, List.take_nil, List.set_cons_zero, List.set_cons_succ, Nat.zero_add, Nat.add_zero, Nat.zero_mul, Nat.mul_one, Nat.one_mul, Nat.reduceAdd, Nat.reduceMul, Nat.reduceSub, kont_v, AV.cells_i, AV.cells_s, AV.cells_b, AV.cells_agg, AV.cells_sl]
      rw [pApp_nsS (by decide) (by decide) (by simp [colL])]
      rw [pStore_S (n := 1) (kk := 1) (r := 0) (st' := 0) (T := I.t 12) (old := [.ns]) rfl rfl rfl rfl (by decide) (by simp) (by simp [colL])]
      rfl
    refine ⟨_, ⟨nx + 1, some (.cells nx false (I.t 10) 0 [.i .i64 z]), [], nx + 1 + 1, by simp, rfl, by simp⟩, fun k => ?_⟩
    rw [round_S (l1 := colL I .ready [] x lit g) (nx1 := nx) (N := 13) (ρ := envL [(2, .p 0 0 1 0 0)]) (ps := [7]) (xa := I.x 2) (xb := I.x 3) (dr := 1) (ds := 1) rfl rfl (by rw [hA]; rfl) rfl (by simp [colL])
      (by rw [hB]; exact hb) rfl (by simp [colL])]
    rfl
  | cons y a =>
    have hb : C1_AppSeqI I R2 (envL [(2, .p 0 0 1 0 0), (5, .i .i64 z)]) (S (colL I .busy (y :: a) x lit g) nx) = some (.ex .normal (envL []) (S (colL I .busy (y :: (a ++ [z])) (nx + 1) lit (g ++ [some (.cells nx false (I.t 10) 0 [.i .i64 z])])) (nx + 1 + 1))) := by
      have hlen : (colL I .busy (y :: a) x lit g).length = g.length + 5 := by simp [colL]
      simp only [List.length_cons] at ha hg
      unfold C1_AppSeqI
      show (pLoad (S (colL I .busy (y :: a) x lit g) nx) false 1 (.p 0 0 1 0 0) fun v4 => pLit (S (colL I .busy (y :: a) x lit g) nx) (I.t 10) 1 1 [(.i .i64 0)] [(0,1,.i .i64 z)] fun v5 s6 => pAppend s6 (I.t 10) 1 v4 v5 fun v7 s8 => pStore s8 1 (.p 0 0 1 0 0) v7 fun v9 s10 => some (.ex .normal (envL []) s10)) = _
      rw [pLoad_Sf (r := 0) (st' := 0) (cs := [.gr 4 x 0 (y :: a).length 1]) (T := I.t 12) (fz := 0) rfl rfl (by decide) (by simp)]
      simp only [args0, args1, args2, args3, args4, jn_d, jv_d, jr_d, callK_ret, eCond_b, eGuard_b, pPick_b, pUn_not, eLeave_nil, bAdd_i, bSub_i, bMul_i, bQuo_i, bRem_i, bEql_i, bNeq_i, bLss_i, bLeq_i, bGtr_i, bGeq_i, bEql_s, bNeq_s, bLss_s, pInt_i, pLen_s, pLen_sl, pLen_gr, pLen_ns, pLen_sz, pBuild_d, fillK_nil, cond_true, cond_false, Bool.not_true, Bool.not_false, Bool.cond_self, List.length_nil, List.length_cons, List.nil_append, List.cons_append, List.append_nil, List.append_assoc, List.length_append, List.getElem?_cons_zero, List.getElem?_cons_succ, List.drop_succ_cons, List.drop_zero, List.drop_nil, List.take_succ_cons, List.take_zero, List.take_nil, List.set_cons_zero, List.set_cons_succ, Nat.zero_add, Nat.add_zero, Nat.zero_mul, Nat.mul_one, Nat.one_mul, Nat.reduceAdd, Nat.reduceMul, Nat.reduceSub, kont_v, AV.cells_i, AV.cells_s, AV.cells_b, AV.cells_agg, AV.cells_sl]
      rw [pLit_S (by omega), fillK_cons (AV.cells_i _ _) (by rfl) (by simp)]
      simp only [args0, args1, args2, args3, args4, jn_d, jv_d, jr_d, callK_ret, eCond_b, eGuard_b, pPick_b, pUn_not, eLeave_nil, bAdd_i, bSub_i, bMul_i, bQuo_i, bRem_i, bEql_i, bNeq_i, bLss_i, bLeq_i, bGtr_i, bGeq_i, bEql_s, bNeq_s, bLss_s, pInt_i, pLen_s, pLen_sl, pLen_gr, pLen_ns, pLen_sz, pBuild_d, fillK_nil, cond_true, cond_false, Bool.not_true, Bool.not_false, Bool.cond_self, List.length_nil, List.length_cons, List.nil_append, List.cons_append, List.append_nil, List.append_assoc, List.length_append, List.getElem?_cons_zero, List.getElem?_cons_succ, List.drop_succ_cons, List.drop_zero, List.drop_nil, List.take_succ_cons, List.take_zero, List.take_nil, List.set_cons_zero, List.set_cons_succ, Nat.zero_add, Nat.add_zero, Nat.zero_mul, Nat.mul_one, Nat.one_mul, Nat.reduceAdd, Nat.reduceMul, Nat.reduceSub, kont_v, AV.cells_i, AV.cells_s, AV.cells_b, AV.cells_agg, AV.cells_sl]
      unfold pAppend
      rw [cellsK_gr (r := (colL I .busy (y :: a) x lit g).length) (st' := nx) (T := I.t 10) (fz := 0) (cs := [.i .i64 z]) (by simp) rfl (by simp)]
      simp only [args0, args1, args2, args3, args4, jn_d, jv_d, jr_d, callK_ret, eCond_b, eGuard_b, pPick_b, pUn_not, eLeave_nil, bAdd_i, bSub_i, bMul_i, bQuo_i, bRem_i, bEql_i, bNeq_i, bLss_i, bLeq_i, bGtr_i, bGeq_i, bEql_s, bNeq_s, bLss_s, pInt_i, pLen_s, pLen_sl, pLen_gr, pLen_ns, pLen_sz, pBuild_d, fillK_nil, cond_true, cond_false, Bool.not_true, Bool.not_false, Bool.cond_self, List.length_nil, List.length_cons, List.nil_append, List.cons_append, List.append_nil, List.append_assoc, List.length_append, List.getElem?_cons_zero, List.getElem?_cons_succ, List.drop_succ_cons, List.drop_zero, List.drop_nil, List.take_succ_cons, List.take_zero, List.take_nil, List.set_cons_zero, List.set_cons_succ, Nat.zero_add, Nat.add_zero, Nat.zero_mul, Nat.mul_one, Nat.one_mul, Nat.reduceAdd, Nat.reduceMul, Nat.reduceSub, kont_v, AV.cells_i, AV.cells_s, AV.cells_b, AV.cells_agg, AV.cells_sl]
      rw [pApp_grS (r := 4) (st' := x) (old := (y :: a).map (.i .i64)) rfl rfl (by simp) (by decide) (by decide) (by omega) (by simp [hlen]; omega)]
      rw [pStore_S (n := 1) (kk := 1) (r := 0) (st' := 0) (T := I.t 12) (old := [.gr 4 x 0 (y :: a).length 1]) rfl rfl rfl rfl (by decide) (by simp) (by simp [hlen]; omega)]
      simp [colL, colV, List.length_nil, List.length_cons, List.nil_append, List.cons_append, List.append_nil, List.append_assoc, List.length_append, List.getElem?_cons_zero, List.getElem?_cons_succ, List.drop_succ_cons, List.drop_zero, List.drop_nil, List.take_succ_cons, List.take_zero, List.take_nil, List.set_cons_zero, List.set_cons_succ, Nat.zero_add, Nat.add_zero, Nat.zero_mul, Nat.mul_one, Nat.one_mul, Nat.reduceAdd, Nat.reduceMul, Nat.reduceSub, kont_v, AV.cells_i, AV.cells_s, AV.cells_b, AV.cells_agg, AV.cells_sl]
    refine ⟨_, ⟨nx + 1, lit, g ++ [some (.cells nx false (I.t 10) 0 [.i .i64 z])], nx + 1 + 1, by simp; simpa using hg, rfl, by simp⟩, fun k => ?_⟩
    simp only [List.length_cons] at ha hg
    rw [round_S (l1 := colL I .ready (y :: a) x lit g) (nx1 := nx) (N := 13) (ρ := envL [(2, .p 0 0 1 0 0)]) (ps := [7]) (xa := I.x 2) (xb := I.x 3) (dr := 1) (ds := 1) rfl rfl (by rw [hA]; rfl) rfl (by simp [colL]; omega)
      (by rw [hB]; exact hb) rfl (by simp [colL]; omega)]
    rfl
theorem appSeq_run {R1 R2 R3 : Rec} (hA : ∀ f s, R2.b 13 (I.x 2) f s = C0_AppSeqI I R3 f s) (hB : ∀ f s, R2.b 13 (I.x 3) f s = C1_AppSeqI I R3 f s) {g : Nat} {caps : List AV} {seq : List Int} (hs : seq.length < 1000000)
    (hiter : ∀ (Inv : List Int → ES → Prop), (∀ a s z, Inv a s → a.length < 1000000 → ∃ s', Inv (a ++ [z]) s' ∧ ∀ k, eRound R2.b 2 2 [.i .i64 z] s k = k (.b true) s') → ∀ s, Inv [] s → ∃ s', Inv seq s' ∧ R1.h g (.fy 2 2 :: caps) s = some (.ret (.tup []) s')) :
    (seq = [] → ∃ s', B_AppSeqI I R1 [.ns, .fn (.func g) [] caps] (S [] 0) = some (.ret .ns s')) ∧
    (seq ≠ [] → ∃ x l nx, B_AppSeqI I R1 [.ns, .fn (.func g) [] caps] (S [] 0) = some (.ret (.gr 4 x 0 seq.length 1) (S l nx)) ∧ l[4]? = some (some (.cells x false (I.t 10) 0 (seq.map (.i .i64))))) := by
  obtain ⟨s', ⟨x, lit, g', nx, hg, rfl, _⟩, hrun⟩ := hiter (ColInv I) (fun a s z h ha => col_round I hA hB h ha) (S (colL I .ready [] 0 none []) 3) ⟨0, none, [], 3, by simp, rfl, fun _ => rfl⟩
  have hlen : (colL I .ready seq x lit g').length ≤ 999999999 := by cases seq <;> simp [colL] <;> simp at hg hs <;> omega
  have h0 : ∀ q, (colL I q seq x lit g')[0]? = some (some (.cells 0 false (I.t 12) 0 [colV x seq])) := fun q => by cases seq <;> rfl
  have h1 : ∀ q, (colL I q seq x lit g')[1]? = some (some (.dfr 1)) := fun q => by cases seq <;> rfl
  have key : B_AppSeqI I R1 [.ns, .fn (.func g) [] caps] (S [] 0) = some (.ret (colV x seq) (S (((colL I .ready seq x lit g').set 2 none).set 1 none) nx)) := by
    unfold B_AppSeqI
    rw [args2, pBox_S (cs := [.ns]) rfl (by simp)]
    simp only [args0, args1, args2, args3, args4, jn_d, jv_d, jr_d, callK_ret, eCond_b, eGuard_b, pPick_b, pUn_not, eLeave_nil, bAdd_i, bSub_i, bMul_i, bQuo_i, bRem_i, bEql_i, bNeq_i, bLss_i, bLeq_i, bGtr_i, bGeq_i, bEql_s, bNeq_s, bLss_s, pInt_i, pLen_s, pLen_sl, pLen_gr, pLen_ns, pLen_sz, pBuild_d, fillK_nil, cond_true, cond_false, Bool.not_true, Bool.not_false, Bool.cond_self, List.length_nil, List.length_cons, List.nil_append, List.cons_append, List.append_nil, List.append_assoc, List.length_append, List.getElem?_cons_zero, List.getElem?_cons_succ, List.drop_succ_cons, List.drop_zero, List.drop_nil, List.take_succ_cons, List.take_zero, List.take_nil, List.set_cons_zero, List.set_cons_succ, Nat.zero_add, Nat.add_zero, Nat.zero_mul, Nat.mul_one, Nat.one_mul, Nat.reduceAdd, Nat.reduceMul, Nat.reduceSub, kont_v, AV.cells_i, AV.cells_s, AV.cells_b, AV.cells_agg, AV.cells_sl]
    rw [pRange_S rfl (by simp)]
    simp only [args0, args1, args2, args3, args4, jn_d, jv_d, jr_d, callK_ret, eCond_b, eGuard_b, pPick_b, pUn_not, eLeave_nil, bAdd_i, bSub_i, bMul_i, bQuo_i, bRem_i, bEql_i, bNeq_i, bLss_i, bLeq_i, bGtr_i, bGeq_i, bEql_s, bNeq_s, bLss_s, pInt_i, pLen_s, pLen_sl, pLen_gr, pLen_ns, pLen_sz, pBuild_d, fillK_nil, cond_true, cond_false, Bool.not_true, Bool.not_false, Bool.cond_self, List.length_nil, List.length_cons, List.nil_append, List.cons_append, List.append_nil, List.append_assoc, List.length_append, List.getElem?_cons_zero, List.getElem?_cons_succ, List.drop_succ_cons, List.drop_zero, List.drop_nil, List.take_succ_cons, List.take_zero, List.take_nil, List.set_cons_zero, List.set_cons_succ, Nat.zero_add, Nat.add_zero, Nat.zero_mul, Nat.mul_one, Nat.one_mul, Nat.reduceAdd, Nat.reduceMul, Nat.reduceSub, kont_v, AV.cells_i, AV.cells_s, AV.cells_b, AV.cells_agg, AV.cells_sl]
    show callK (R1.h g (.fy 2 2 :: caps) (S (colL I .ready [] 0 none []) 3)) _ = _
    rw [hrun]
    simp only [args0, args1, args2, args3, args4, jn_d, jv_d, jr_d, callK_ret, eCond_b, eGuard_b, pPick_b, pUn_not, eLeave_nil, bAdd_i, bSub_i, bMul_i, bQuo_i, bRem_i, bEql_i, bNeq_i, bLss_i, bLeq_i, bGtr_i, bGeq_i, bEql_s, bNeq_s, bLss_s, pInt_i, pLen_s, pLen_sl, pLen_gr, pLen_ns, pLen_sz, pBuild_d, fillK_nil, cond_true, cond_false, Bool.not_true, Bool.not_false, Bool.cond_self, List.length_nil, List.length_cons, List.nil_append, List.cons_append, List.append_nil, List.append_assoc, List.length_append, List.getElem?_cons_zero, List.getElem?_cons_succ, List.drop_succ_cons, List.drop_zero, List.drop_nil, List.take_succ_cons, List.take_zero, List.take_nil, List.set_cons_zero, List.set_cons_succ, Nat.zero_add, Nat.add_zero, Nat.zero_mul, Nat.mul_one, Nat.one_mul, Nat.reduceAdd, Nat.reduceMul, Nat.reduceSub, kont_v, AV.cells_i, AV.cells_s, AV.cells_b, AV.cells_agg, AV.cells_sl]
    rw [eRangeEnd_S (N := 13) (ρ := envL [(2, .p 0 0 1 0 0)]) (ps := [7]) (xa := I.x 2) (xb := I.x 3) (dr := 1) (ds := 1) (by cases seq <;> rfl) hlen]
    unfold B_AppSeqIj1
    rw [pLoad_Sf (r := 0) (st' := 0) (cs := [colV x seq]) (T := I.t 12) (fz := 0) (by rw [List.getElem?_set]; simp [h0]) rfl (by decide) (by simp)]
    simp only [args0, args1, args2, args3, args4, jn_d, jv_d, jr_d, callK_ret, eCond_b, eGuard_b, pPick_b, pUn_not, eLeave_nil, bAdd_i, bSub_i, bMul_i, bQuo_i, bRem_i, bEql_i, bNeq_i, bLss_i, bLeq_i, bGtr_i, bGeq_i, bEql_s, bNeq_s, bLss_s, pInt_i, pLen_s, pLen_sl, pLen_gr, pLen_ns, pLen_sz, pBuild_d, fillK_nil, cond_true, cond_false, Bool.not_true, Bool.not_false, Bool.cond_self, List.length_nil, List.length_cons, List.nil_append, List.cons_append, List.append_nil, List.append_assoc, List.length_append, List.getElem?_cons_zero, List.getElem?_cons_succ, List.drop_succ_cons, List.drop_zero, List.drop_nil, List.take_succ_cons, List.take_zero, List.take_nil, List.set_cons_zero, List.set_cons_succ, Nat.zero_add, Nat.add_zero, Nat.zero_mul, Nat.mul_one, Nat.one_mul, Nat.reduceAdd, Nat.reduceMul, Nat.reduceSub, kont_v, AV.cells_i, AV.cells_s, AV.cells_b, AV.cells_agg, AV.cells_sl]
    rw [eLeave_S (r := 1) (st := 1) (by rw [List.getElem?_set]; simp [h1]) (by simpa using hlen)]
    rfl
  refine ⟨fun h => ?_, fun h => ?_⟩
  · subst h; exact ⟨_, key⟩
  · refine ⟨x, ((colL I .ready seq x lit g').set 2 none).set 1 none, nx, ?_, ?_⟩
    · rw [key]
      cases seq with
      | nil => exact absurd rfl h
      | cons y a => rfl
    · cases seq with
      | nil => exact absurd rfl h
      | cons y a => rfl
def collF (G : List AV → Option (List Int)) : List AV → Option (Nat × Nat × Nat × List AV) := fun as => match G as with
  | some seq => if seq.length < 1000000 then some (I.t 10, seq.length, 1, seq.map (.i .i64)) else none
  | none => none
theorem coll_c {R R1 R2 R3 : Rec} (h1 : ∀ args s, R.f (I.f 27) args s = B_AppSeqI I R1 args s) (hA : ∀ f s, R2.b 13 (I.x 2) f s = C0_AppSeqI I R3 f s) (hB : ∀ f s, R2.b 13 (I.x 3) f s = C1_AppSeqI I R3 f s) {G : List AV → Option (List Int)}
    (hG : ∀ as seq, G as = some seq → ∃ g caps, as = [.fn (.func g) [] caps] ∧ ∀ (Inv : List Int → ES → Prop), (∀ a s z, Inv a s → a.length < 1000000 → ∃ s', Inv (a ++ [z]) s' ∧ ∀ k, eRound R2.b 2 2 [.i .i64 z] s k = k (.b true) s') → ∀ s, Inv [] s → ∃ s', Inv seq s' ∧ R1.h g (.fy 2 2 :: caps) s = some (.ret (.tup []) s'))
    (as : List AV) (T n k : Nat) (cs : List AV) (h : collF I G as = some (T, n, k, cs)) : (n = 0 → Tot (fun v _ => v = .ns) (B_CollectI I R as (S [] 0))) ∧ (n ≠ 0 → Tot (IsRow Fla T n k cs) (B_CollectI I R as (S [] 0))) := by
  unfold collF at h
  split at h
  case h_2 => cases h
  rename_i seq hg
  split at h
  case isFalse => cases h
  rename_i hs
  cases h
  obtain ⟨g, caps, rfl, hi⟩ := hG as seq hg
  obtain ⟨k1, k2⟩ := appSeq_run I hA hB hs hi
  refine ⟨fun h => ?_, fun h => ?_⟩
  · obtain ⟨s', hr⟩ := k1 (List.eq_nil_of_length_eq_zero h)
    unfold B_CollectI
    simp only [args0, args1, args2, args3, args4, jn_d, jv_d, jr_d, callK_ret, eCond_b, eGuard_b, pPick_b, pUn_not, eLeave_nil, bAdd_i, bSub_i, bMul_i, bQuo_i, bRem_i, bEql_i, bNeq_i, bLss_i, bLeq_i, bGtr_i, bGeq_i, bEql_s, bNeq_s, bLss_s, pInt_i, pLen_s, pLen_sl, pLen_gr, pLen_ns, pLen_sz, pBuild_d, fillK_nil, cond_true, cond_false, Bool.not_true, Bool.not_false, Bool.cond_self, List.length_nil, List.length_cons, List.nil_append, List.cons_append, List.append_nil, List.append_assoc, List.length_append, List.getElem?_cons_zero, List.getElem?_cons_succ, List.drop_succ_cons, List.drop_zero, List.drop_nil, List.take_succ_cons, List.take_zero, List.take_nil, List.set_cons_zero, List.set_cons_succ, Nat.zero_add, Nat.add_zero, Nat.zero_mul, Nat.mul_one, Nat.one_mul, Nat.reduceAdd, Nat.reduceMul, Nat.reduceSub, kont_v, AV.cells_i, AV.cells_s, AV.cells_b, AV.cells_agg, AV.cells_sl, h1, hr]
    exact Tot.ret rfl
  · obtain ⟨x, l, nx, hr, hl⟩ := k2 (fun e => h (by rw [e]; rfl))
    unfold B_CollectI
    simp only [args0, args1, args2, args3, args4, jn_d, jv_d, jr_d, callK_ret, eCond_b, eGuard_b, pPick_b, pUn_not, eLeave_nil, bAdd_i, bSub_i, bMul_i, bQuo_i, bRem_i, bEql_i, bNeq_i, bLss_i, bLeq_i, bGtr_i, bGeq_i, bEql_s, bNeq_s, bLss_s, pInt_i, pLen_s, pLen_sl, pLen_gr, pLen_ns, pLen_sz, pBuild_d, fillK_nil, cond_true, cond_false, Bool.not_true, Bool.not_false, Bool.cond_self, List.length_nil, List.length_cons, List.nil_append, List.cons_append, List.append_nil, List.append_assoc, List.length_append, List.getElem?_cons_zero, List.getElem?_cons_succ, List.drop_succ_cons, List.drop_zero, List.drop_nil, List.take_succ_cons, List.take_zero, List.take_nil, List.set_cons_zero, List.set_cons_succ, Nat.zero_add, Nat.add_zero, Nat.zero_mul, Nat.mul_one, Nat.one_mul, Nat.reduceAdd, Nat.reduceMul, Nat.reduceSub, kont_v, AV.cells_i, AV.cells_s, AV.cells_b, AV.cells_agg, AV.cells_sl, h1, hr]
    refine Tot.ret ⟨4, x, x, _, rfl, ?_, InlL.same ?_⟩
    · rw [S_st]
      exact Store.at_of hl rfl
    · rw [FlaL_iff]
      intro y hy
      obtain ⟨b, _, rfl⟩ := List.mem_map.1 hy
      simp only [Fla]
def allG : List AV → Option (List Int)
  | [.fn (.func k) [] [.pe [v] 1 0 0]] => if k = I.f 8 then (match encB.decS v with
    | some bs => if bs.length < 30000 then some ((trues bs 0).map fun (n : Nat) => (n : Int)) else none
    | none => none) else none
  | _ => none
theorem allG_ok {R1 R2 : Rec} (h2 : ∀ args s, R1.h (I.f 8) args s = B_mall1 I R2 args s) (as : List AV) (seq : List Int) (h : allG I as = some seq) :
    ∃ g caps, as = [.fn (.func g) [] caps] ∧ ∀ (Inv : List Int → ES → Prop), (∀ a s z, Inv a s → a.length < 1000000 → ∃ s', Inv (a ++ [z]) s' ∧ ∀ k, eRound R2.b 2 2 [.i .i64 z] s k = k (.b true) s') → ∀ s, Inv [] s → ∃ s', Inv seq s' ∧ R1.h g (.fy 2 2 :: caps) s = some (.ret (.tup []) s') := by
  unfold allG at h
  split at h
  case h_2 => cases h
  rename_i k v
  split at h
  case isFalse => cases h
  rename_i hk
  split at h
  case h_2 => cases h
  rename_i bs hv
  split at h
  case isFalse => cases h
  rename_i hl
  cases h
  subst hk
  refine ⟨_, _, rfl, fun Inv hr s h0 => ?_⟩
  obtain ⟨s', q1, q2⟩ := mall1_iter (I := I) (R := R2) (cap := .pe [v] 1 0 0) (r := 2) (st := 2) hv hl (fun a s => Inv (a.map fun (n : Nat) => (n : Int)) s) (fun a s z ha hal hz => by
    obtain ⟨s', e1, e2⟩ := hr _ s (z : Nat) ha (by simp; omega)
    exact ⟨s', by simpa using e1, e2⟩) s h0 (fun k => by rw [pLoad_pe, loadK_fm (by decide) (by simp)]; rfl)
  exact ⟨s', q1, by rw [h2]; exact q2⟩
end
end Hb
end
