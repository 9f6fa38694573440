/- A layer for programs of small data: values, stores, code, and an evaluator of code that the kernel runs; part 14. -/
import Derived.Test.YtmjcgaaeejpkgaaGreatDoorH13
import Derived.ChangeFn
import Derived.OpenShut
import Derived.LaidMore

section
set_option linter.unusedVariables false
set_option linter.unusedSimpArgs false
set_option linter.constructorNameAsVariable false
set_option autoImplicit false
set_option linter.unusedVariables false
set_option linter.unusedSimpArgs false
set_option linter.constructorNameAsVariable false
namespace Hb
open Go
theorem pEq_bool (s : ES) (neg p q : Bool) (k : KP) : pEq s .bool neg (.b p) (.b q) k = k (.b (xor neg (p == q))) := by
  cases neg <;> cases p <;> cases q <;> rfl
def letterR : List (Int × Int) := [(65, 90), (97, 122), (192, 214), (216, 246), (248, 255), (880, 1327)]
def spaceR : List (Int × Int) := [(9, 13), (32, 32), (133, 133), (160, 160), (8192, 8202), (8232, 8233), (12288, 12288)]
def wordsRs : List RuleV := [⟨1, false, .set letterR, .set letterR⟩, ⟨2, false, .set spaceR, .set spaceR⟩]
def chrW (z : Int) : Int := if 0 < z % 3 then 97 + z % 26 else 32
def cls (c : Int) : Bool := decide (c = 32)
def turnP (t : List Int) (j : Nat) : Bool := decide (j = 0) || xor true (cls ((t[j]?).getD 0) == cls ((t[j - 1]?).getD 0))
def runsV (t : List Int) (i : Nat) : Nat := ((List.range i).filter (turnP t)).length
theorem chrW_cls (z : Int) (h0 : 0 ≤ z) : chrW z = 32 ∨ (97 ≤ chrW z ∧ chrW z ≤ 122) := by
  unfold chrW
  split
  · right; omega
  · exact .inl rfl
theorem hasL (c : Int) (h : c = 32 ∨ (97 ≤ c ∧ c ≤ 122)) : hasR letterR c = !cls c := by
  rcases h with rfl | ⟨h1, h2⟩
  · decide
  · have : cls c = false := by simp [cls]; omega
    rw [this]
    have h3 : has1P (97, 122) c = true := by simp [has1P, rightP]; omega
    simp [hasR, letterR, h3]
theorem hasS (c : Int) (h : c = 32 ∨ (97 ≤ c ∧ c ≤ 122)) : hasR spaceR c = cls c := by
  rcases h with rfl | ⟨h1, h2⟩
  · decide
  · have : cls c = false := by simp [cls]; omega
    rw [this]
    simp [hasR, spaceR, has1P, rightP]; omega
theorem cutW {t : List Int} (ht : ∀ c ∈ t, c = 32 ∨ (97 ≤ c ∧ c ≤ 122)) {j : Nat} (h0 : 0 < j) (h1 : j < t.length) : cutV wordsRs t j = turnP t j := by
  have ha : ((t[j]?).getD 0) ∈ t := by rw [List.getElem?_eq_getElem h1]; exact List.getElem_mem _
  have hb : ((t[j - 1]?).getD 0) ∈ t := by rw [List.getElem?_eq_getElem (by omega)]; exact List.getElem_mem _
  have d0 : decide (j = 0) = false := by simp; omega
  have d1 : decide (0 < j) = true := by simp; omega
  have d2 : decide (j < t.length) = true := by simp; omega
  unfold cutV turnP wordsRs
  simp only [List.find?_cons, fitsV, cond_true, cond_false, hasL _ (ht _ ha), hasL _ (ht _ hb), hasS _ (ht _ ha), hasS _ (ht _ hb), d0, d1, d2, Bool.true_and, Bool.false_or, List.find?_nil]
  cases cls ((t[j]?).getD 0) <;> cases cls ((t[j - 1]?).getD 0) <;> rfl
theorem words_plain {t : List Int} (ht : ∀ c ∈ t, c = 32 ∨ (97 ≤ c ∧ c ≤ 122)) (hne : t ≠ []) : (cutsV wordsRs t).length = runsV t t.length + 1 := by
  have hpos : 0 < t.length := List.length_pos_iff.2 hne
  rw [cutsV_eq hne]
  unfold runsV
  obtain ⟨n, hn⟩ : ∃ n, t.length = n + 1 := ⟨t.length - 1, by omega⟩
  have h1 : (List.range t.length).filter (turnP t) = 0 :: (List.range' 1 n).filter (turnP t) := by
    rw [hn, List.range_eq_range', List.range'_succ, List.filter_cons]
    rfl
  have h2 : (List.range' 1 (t.length - 1)).filter (cutV wordsRs t) = (List.range' 1 n).filter (turnP t) := by
    rw [hn, Nat.add_sub_cancel]
    apply List.filter_congr
    intro j hj
    have := List.mem_range'_1.1 hj
    exact cutW ht (by omega) (by omega)
  rw [h1, h2]
  simp
section
variable (I : Ids) (isOk isBk : List AV → Bool)
noncomputable def rowsOf (T : Nat) (a : List Int) (x : Nat) (lit : Option Blk) (g : List (Option Blk)) : List (Option Blk) := match a with
  | [] => []
  | _ => lit :: some (.cells x false T 0 (a.map (.i .i32))) :: g
def rowV (a : List Int) (x : Nat) : AV := match a with
  | [] => .ns
  | _ => .gr 2 x 0 a.length 1
theorem row_app {T : Nat} {b0 : Option Blk} {a : List Int} {x nx : Nat} {lit : Option Blk} {g : List (Option Blk)} {z : Int} (hg : g.length ≤ a.length) (ha : a.length < 100000) :
    ∃ x' lit' g' nx', g'.length ≤ a.length + 1 ∧ ∀ C : AV → ES → Res, (pLit (S (b0 :: rowsOf T a x lit g) nx) T 1 1 [.i .i32 0] [(0, 1, .i .i32 z)] fun v67 s68 => pAppend s68 T 1 (rowV a x) v67 fun v69 s70 => C v69 s70) = C (rowV (a ++ [z]) x') (S (b0 :: rowsOf T (a ++ [z]) x' lit' g') nx') := by
  cases a with
  | nil =>
    refine ⟨nx + 1, some (.cells nx false T 0 [.i .i32 z]), [], nx + 1 + 1, by simp, fun C => ?_⟩
    rw [pLit_S (by simp [rowsOf]), fillK_cons (AV.cells_i _ _) (by rfl) (by simp)]
    simp only [args0, args1, args2, args3, args4, jn_d, jv_d, jr_d, callK_ret, eCond_b, eGuard_b, pPick_b, pUn_not, eLeave_nil, bAdd_i, bSub_i, bMul_i, bQuo_i, bRem_i, bEql_i, bNeq_i, bLss_i, bLeq_i, bGtr_i, bGeq_i, bEql_s, bNeq_s, bLss_s, pInt_i, pLen_s, pLen_sl, pLen_gr, pLen_ns, pLen_sz, pBuild_d, fillK_nil, cond_true, cond_false, Bool.not_true, Bool.not_false, Bool.cond_self, List.length_nil, List.length_cons, List.nil_append, List.cons_append, List.append_nil, List.append_assoc, List.length_append, List.getElem?_cons_zero, List.getElem?_cons_succ, List.drop_succ_cons, List.drop_zero, List.drop_nil, List.take_succ_cons, List.take_zero, List.take_nil, List.set_cons_zero, List.set_cons_succ, Nat.zero_add, Nat.add_zero, Nat.zero_mul, Nat.mul_one, Nat.one_mul, Nat.reduceAdd, Nat.reduceMul, Nat.reduceSub, kont_v, AV.cells_i, AV.cells_s, AV.cells_b, AV.cells_agg, AV.cells_sl]
    unfold pAppend
    rw [cellsK_gr (r := (rowsOf T [] x lit g).length + 1) (st' := nx) (T := T) (fz := 0) (cs := [.i .i32 z]) (by simp) rfl (by simp)]
    simp only [rowV, args0, args1, args2, args3, args4, jn_d, jv_d, jr_d, callK_ret, eCond_b, eGuard_b, pPick_b, pUn_not, eLeave_nil, bAdd_i, bSub_i, bMul_i, bQuo_i, bRem_i, bEql_i, bNeq_i, bLss_i, bLeq_i, bGtr_i, bGeq_i, bEql_s, bNeq_s, bLss_s, pInt_i, pLen_s, pLen_sl, pLen_gr, pLen_ns, pLen_sz, pBuild_d, fillK_nil, cond_true, cond_false, Bool.not_true, Bool.not_false, Bool.cond_self, List.length_nil, List.length_cons, List.nil_append, List.cons_append, List.append_nil, List.append_assoc, List.length_append, List.getElem?_cons_zero, List.getElem?_cons_succ, List.drop_succ_cons, List.drop_zero, List.drop_nil, List.take_succ_cons, List.take_zero, List.take_nil, List.set_cons_zero, List.set_cons_succ, Nat.zero_add, Nat.add_zero, Nat.zero_mul, Nat.mul_one, Nat.one_mul, Nat.reduceAdd, Nat.reduceMul, Nat.reduceSub, kont_v, AV.cells_i, AV.cells_s, AV.cells_b, AV.cells_agg, AV.cells_sl]
    rw [pApp_nsS (by decide) (by decide) (by simp [rowsOf])]
    rfl
  | cons y a =>
    simp only [List.length_cons] at ha hg
    refine ⟨nx + 1, lit, g ++ [some (.cells nx false T 0 [.i .i32 z])], nx + 1 + 1, by simp; omega, fun C => ?_⟩
    have hlen : (b0 :: rowsOf T (y :: a) x lit g).length = g.length + 3 := by simp [rowsOf]
    rw [pLit_S (by omega), fillK_cons (AV.cells_i _ _) (by rfl) (by simp)]
    simp only [args0, args1, args2, args3, args4, jn_d, jv_d, jr_d, callK_ret, eCond_b, eGuard_b, pPick_b, pUn_not, eLeave_nil, bAdd_i, bSub_i, bMul_i, bQuo_i, bRem_i, bEql_i, bNeq_i, bLss_i, bLeq_i, bGtr_i, bGeq_i, bEql_s, bNeq_s, bLss_s, pInt_i, pLen_s, pLen_sl, pLen_gr, pLen_ns, pLen_sz, pBuild_d, fillK_nil, cond_true, cond_false, Bool.not_true, Bool.not_false, Bool.cond_self, List.length_nil, List.length_cons, List.nil_append, List.cons_append, List.append_nil, List.append_assoc, List.length_append, List.getElem?_cons_zero, List.getElem?_cons_succ, List.drop_succ_cons, List.drop_zero, List.drop_nil, List.take_succ_cons, List.take_zero, List.take_nil, List.set_cons_zero, List.set_cons_succ, Nat.zero_add, Nat.add_zero, Nat.zero_mul, Nat.mul_one, Nat.one_mul, Nat.reduceAdd, Nat.reduceMul, Nat.reduceSub, kont_v, AV.cells_i, AV.cells_s, AV.cells_b, AV.cells_agg, AV.cells_sl]
    unfold pAppend
    rw [cellsK_gr (r := (rowsOf T (y :: a) x lit g).length + 1) (st' := nx) (T := T) (fz := 0) (cs := [.i .i32 z]) (by simp) rfl (by simp)]
    simp only [rowV, args0, args1, args2, args3, args4, jn_d, jv_d, jr_d, callK_ret, eCond_b, eGuard_b, pPick_b, pUn_not, eLeave_nil, bAdd_i, bSub_i, bMul_i, bQuo_i, bRem_i, bEql_i, bNeq_i, bLss_i, bLeq_i, bGtr_i, bGeq_i, bEql_s, bNeq_s, bLss_s, pInt_i, pLen_s, pLen_sl, pLen_gr, pLen_ns, pLen_sz, pBuild_d, fillK_nil, cond_true, cond_false, Bool.not_true, Bool.not_false, Bool.cond_self, List.length_nil, List.length_cons, List.nil_append, List.cons_append, List.append_nil, List.append_assoc, List.length_append, List.getElem?_cons_zero, List.getElem?_cons_succ, List.drop_succ_cons, List.drop_zero, List.drop_nil, List.take_succ_cons, List.take_zero, List.take_nil, List.set_cons_zero, List.set_cons_succ, Nat.zero_add, Nat.add_zero, Nat.zero_mul, Nat.mul_one, Nat.one_mul, Nat.reduceAdd, Nat.reduceMul, Nat.reduceSub, kont_v, AV.cells_i, AV.cells_s, AV.cells_b, AV.cells_agg, AV.cells_sl]
    rw [pApp_grS (r := 2) (st' := x) (old := (y :: a).map (.i .i32)) rfl rfl (by simp) (by decide) (by decide) (by omega) (by simp [rowsOf]; omega)]
    simp [rowsOf, List.length_nil, List.length_cons, List.nil_append, List.cons_append, List.append_nil, List.append_assoc, List.length_append, List.getElem?_cons_zero, List.getElem?_cons_succ, List.drop_succ_cons, List.drop_zero, List.drop_nil, List.take_succ_cons, List.take_zero, List.take_nil, List.set_cons_zero, List.set_cons_succ, Nat.zero_add, Nat.add_zero, Nat.zero_mul, Nat.mul_one, Nat.one_mul, Nat.reduceAdd, Nat.reduceMul, Nat.reduceSub, kont_v, AV.cells_i, AV.cells_s, AV.cells_b, AV.cells_agg, AV.cells_sl]
theorem LWords_c {R : Rec} {rv sk v : AV} (hknown : ∀ s, R.f (I.f 31) [] s = some (.ret (.b true) s)) (hbook : ∀ s, R.f (I.f 30) [.s [49,58,32,123,76,101,116,116,101,114,125,32,62,60,32,123,76,101,116,116,101,114,125,10,50,58,32,123,83,112,97,99,101,125,32,62,60,32,123,83,112,97,99,101,125,10]] s = some (.ret (.tup [.agg [rv, sk], .b true]) s))
    (hr : encRule.decS rv = some wordsRs) (hk : encS.decS sk = some []) (hbk : isBk [rv, sk] = true) (hok : rulesOk isOk wordsRs = true) (hcuts : ∀ args s, R.f (I.f 29) args s = rowOv (CutsF I isOk isBk) R args s) {l : List Int} (hv : (encI .u8).decS v = some l) (hl8 : ∀ x ∈ l, 0 ≤ x ∧ x ≤ 255) :
    ∃ s', B_LWords I R [v] (S [] 0) = some (.ret (.b true) s') := by
  unfold B_LWords
  simp only [args1, jn_d, hknown, callK_ret, pUn_not, Bool.not_true, eCond_b, cond_false]
  unfold B_LWordsj8
  simp only [jn_d, (encI .u8).pLen_v hv, bGtr_i]
  by_cases h50 : 50 < l.length
  · have hd : decide ((50 : Int) < (l.length : Int)) = true := by simp; omega
    refine ⟨S [] 0, ?_⟩
    simp only [hd, args0, args1, args2, args3, args4, jn_d, jv_d, jr_d, callK_ret, eCond_b, eGuard_b, pPick_b, pUn_not, eLeave_nil, bAdd_i, bSub_i, bMul_i, bQuo_i, bRem_i, bEql_i, bNeq_i, bLss_i, bLeq_i, bGtr_i, bGeq_i, bEql_s, bNeq_s, bLss_s, pInt_i, pLen_s, pLen_sl, pLen_gr, pLen_ns, pLen_sz, pBuild_d, fillK_nil, cond_true, cond_false, Bool.not_true, Bool.not_false, Bool.cond_self, List.length_nil, List.length_cons, List.nil_append, List.cons_append, List.append_nil, List.append_assoc, List.length_append, List.getElem?_cons_zero, List.getElem?_cons_succ, List.drop_succ_cons, List.drop_zero, List.drop_nil, List.take_succ_cons, List.take_zero, List.take_nil, List.set_cons_zero, List.set_cons_succ, Nat.zero_add, Nat.add_zero, Nat.zero_mul, Nat.mul_one, Nat.one_mul, Nat.reduceAdd, Nat.reduceMul, Nat.reduceSub, kont_v, AV.cells_i, AV.cells_s, AV.cells_b, AV.cells_agg, AV.cells_sl]
  by_cases h0 : l = []
  · subst h0
    refine ⟨S [] 0, ?_⟩
    simp [args0, args1, args2, args3, args4, jn_d, jv_d, jr_d, callK_ret, eCond_b, eGuard_b, pPick_b, pUn_not, eLeave_nil, bAdd_i, bSub_i, bMul_i, bQuo_i, bRem_i, bEql_i, bNeq_i, bLss_i, bLeq_i, bGtr_i, bGeq_i, bEql_s, bNeq_s, bLss_s, pInt_i, pLen_s, pLen_sl, pLen_gr, pLen_ns, pLen_sz, pBuild_d, fillK_nil, cond_true, cond_false, Bool.not_true, Bool.not_false, Bool.cond_self, List.length_nil, List.length_cons, List.nil_append, List.cons_append, List.append_nil, List.append_assoc, List.length_append, List.getElem?_cons_zero, List.getElem?_cons_succ, List.drop_succ_cons, List.drop_zero, List.drop_nil, List.take_succ_cons, List.take_zero, List.take_nil, List.set_cons_zero, List.set_cons_succ, Nat.zero_add, Nat.add_zero, Nat.zero_mul, Nat.mul_one, Nat.one_mul, Nat.reduceAdd, Nat.reduceMul, Nat.reduceSub, kont_v, AV.cells_i, AV.cells_s, AV.cells_b, AV.cells_agg, AV.cells_sl, (encI .u8).pLen_v hv]
  have hpos : 0 < l.length := List.length_pos_iff.2 h0
  have hd : decide ((50 : Int) < (l.length : Int)) = false := by simp; omega
  have hd0 : decide ((l.length : Int) = 0) = false := by simp; exact h0
  simp only [hd, args0, args1, args2, args3, args4, jn_d, jv_d, jr_d, callK_ret, eCond_b, eGuard_b, pPick_b, pUn_not, eLeave_nil, bAdd_i, bSub_i, bMul_i, bQuo_i, bRem_i, bEql_i, bNeq_i, bLss_i, bLeq_i, bGtr_i, bGeq_i, bEql_s, bNeq_s, bLss_s, pInt_i, pLen_s, pLen_sl, pLen_gr, pLen_ns, pLen_sz, pBuild_d, fillK_nil, cond_true, cond_false, Bool.not_true, Bool.not_false, Bool.cond_self, List.length_nil, List.length_cons, List.nil_append, List.cons_append, List.append_nil, List.append_assoc, List.length_append, List.getElem?_cons_zero, List.getElem?_cons_succ, List.drop_succ_cons, List.drop_zero, List.drop_nil, List.take_succ_cons, List.take_zero, List.take_nil, List.set_cons_zero, List.set_cons_succ, Nat.zero_add, Nat.add_zero, Nat.zero_mul, Nat.mul_one, Nat.one_mul, Nat.reduceAdd, Nat.reduceMul, Nat.reduceSub, kont_v, AV.cells_i, AV.cells_s, AV.cells_b, AV.cells_agg, AV.cells_sl, (encI .u8).pLen_v hv, hd0]
  unfold B_LWordsj7
  simp only [hbook, args0, args1, args2, args3, args4, jn_d, jv_d, jr_d, callK_ret, eCond_b, eGuard_b, pPick_b, pUn_not, eLeave_nil, bAdd_i, bSub_i, bMul_i, bQuo_i, bRem_i, bEql_i, bNeq_i, bLss_i, bLeq_i, bGtr_i, bGeq_i, bEql_s, bNeq_s, bLss_s, pInt_i, pLen_s, pLen_sl, pLen_gr, pLen_ns, pLen_sz, pBuild_d, fillK_nil, cond_true, cond_false, Bool.not_true, Bool.not_false, Bool.cond_self, List.length_nil, List.length_cons, List.nil_append, List.cons_append, List.append_nil, List.append_assoc, List.length_append, List.getElem?_cons_zero, List.getElem?_cons_succ, List.drop_succ_cons, List.drop_zero, List.drop_nil, List.take_succ_cons, List.take_zero, List.take_nil, List.set_cons_zero, List.set_cons_succ, Nat.zero_add, Nat.add_zero, Nat.zero_mul, Nat.mul_one, Nat.one_mul, Nat.reduceAdd, Nat.reduceMul, Nat.reduceSub, kont_v, AV.cells_i, AV.cells_s, AV.cells_b, AV.cells_agg, AV.cells_sl]
  rw [pExt_t rfl, pExt_t rfl, pRow_S (by simp)]
  simp only [args0, args1, args2, args3, args4, jn_d, jv_d, jr_d, callK_ret, eCond_b, eGuard_b, pPick_b, pUn_not, eLeave_nil, bAdd_i, bSub_i, bMul_i, bQuo_i, bRem_i, bEql_i, bNeq_i, bLss_i, bLeq_i, bGtr_i, bGeq_i, bEql_s, bNeq_s, bLss_s, pInt_i, pLen_s, pLen_sl, pLen_gr, pLen_ns, pLen_sz, pBuild_d, fillK_nil, cond_true, cond_false, Bool.not_true, Bool.not_false, Bool.cond_self, List.length_nil, List.length_cons, List.nil_append, List.cons_append, List.append_nil, List.append_assoc, List.length_append, List.getElem?_cons_zero, List.getElem?_cons_succ, List.drop_succ_cons, List.drop_zero, List.drop_nil, List.take_succ_cons, List.take_zero, List.take_nil, List.set_cons_zero, List.set_cons_succ, Nat.zero_add, Nat.add_zero, Nat.zero_mul, Nat.mul_one, Nat.one_mul, Nat.reduceAdd, Nat.reduceMul, Nat.reduceSub, kont_v, AV.cells_i, AV.cells_s, AV.cells_b, AV.cells_agg, AV.cells_sl]
  rw [pStore_S (n := 2) (kk := 2) (l := [some (.cells 0 false (I.t 8) 0 [.ns, .ns])]) (r := 0) (st' := 0) (T := I.t 8) (old := [.ns, .ns]) rfl rfl (AV.cells_agg _) rfl (by decide) (by simp) (by simp)]
  simp only [args0, args1, args2, args3, args4, jn_d, jv_d, jr_d, callK_ret, eCond_b, eGuard_b, pPick_b, pUn_not, eLeave_nil, bAdd_i, bSub_i, bMul_i, bQuo_i, bRem_i, bEql_i, bNeq_i, bLss_i, bLeq_i, bGtr_i, bGeq_i, bEql_s, bNeq_s, bLss_s, pInt_i, pLen_s, pLen_sl, pLen_gr, pLen_ns, pLen_sz, pBuild_d, fillK_nil, cond_true, cond_false, Bool.not_true, Bool.not_false, Bool.cond_self, List.length_nil, List.length_cons, List.nil_append, List.cons_append, List.append_nil, List.append_assoc, List.length_append, List.getElem?_cons_zero, List.getElem?_cons_succ, List.drop_succ_cons, List.drop_zero, List.drop_nil, List.take_succ_cons, List.take_zero, List.take_nil, List.set_cons_zero, List.set_cons_succ, Nat.zero_add, Nat.add_zero, Nat.zero_mul, Nat.mul_one, Nat.one_mul, Nat.reduceAdd, Nat.reduceMul, Nat.reduceSub, kont_v, AV.cells_i, AV.cells_s, AV.cells_b, AV.cells_agg, AV.cells_sl]
  let t : List Int := l.map chrW
  have htl : t.length = l.length := by simp [t]
  let b0 : Option Blk := some (.cells 0 false (I.t 8) 0 [rv, sk])
  have key : ∀ (m i fuel x nx : Nat) (lit : Option Blk) (g : List (Option Blk)), i + m = l.length → m < fuel → g.length ≤ i →
      ∃ x' nx' lit' g', g'.length ≤ l.length ∧ lp [5,6,7] fuel (B_LWordsl6 I R v (B_LWordsj1 I R (.b true) (.p 0 0 2 0 0))) (rowV (t.take i) x) (.i .i64 (runsV t i : Nat)) (.i .i64 (i : Nat)) [] (S (b0 :: rowsOf (I.t 1) (t.take i) x lit g) nx) =
        B_LWordsj1 I R (.b true) (.p 0 0 2 0 0) (rowV t x') (.i .i64 (runsV t l.length : Nat)) [] (S (b0 :: rowsOf (I.t 1) t x' lit' g') nx') := by
    intro m
    induction m with
    | zero =>
      intro i fuel x nx lit g hi hf hg
      cases fuel with
      | zero => omega
      | succ f =>
        have hi : i = l.length := by omega
        subst hi
        refine ⟨x, nx, lit, g, hg, ?_⟩
        rw [lp_s, List.take_of_length_le (by omega)]
        have hd : decide ((l.length : Int) < (l.length : Int)) = false := by simp
        simp only [B_LWordsl6, jn_d, (encI .u8).pLen_v hv, bLss_i, hd, eCond_b, cond_false]
    | succ m ih =>
      intro i fuel x nx lit g hi hf hg
      cases fuel with
      | zero => omega
      | succ f =>
        have hlt : i < l.length := by omega
        obtain ⟨z, hz⟩ : ∃ z, l[i]? = some z := ⟨_, List.getElem?_eq_getElem hlt⟩
        have hzm := hl8 z (List.mem_of_getElem? hz)
        have hti : t[i]? = some (chrW z) := by simp [t, hz]
        have htake : t.take (i + 1) = t.take i ++ [chrW z] := by rw [List.take_add_one, hti]; rfl
        have hlen : (t.take i).length = i := by rw [List.length_take]; omega
        obtain ⟨x1, lit1, g1, nx1, hg1, happ⟩ := row_app (T := I.t 1) (b0 := b0) (a := t.take i) (x := x) (nx := nx) (lit := lit) (g := g) (z := chrW z) (by omega) (by omega)
        have hrun : runsV t (i + 1) = if turnP t i then runsV t i + 1 else runsV t i := by
          unfold runsV
          rw [List.range_succ, List.filter_append, List.length_append, List.filter_cons]
          cases turnP t i <;> simp
        have hrl : runsV t i ≤ i := by
          unfold runsV
          have := List.length_filter_le (turnP t) (List.range i)
          simpa using this
        obtain ⟨x', nx', lit', g', hg', hrec⟩ := ih (i + 1) f x1 nx1 lit1 g1 (by omega) (by omega) (by omega)
        refine ⟨x', nx', lit', g', hg', ?_⟩
        rw [lp_s, ← hrec]
        generalize lp [5,6,7] f _ = K
        have hd : decide ((i : Int) < (l.length : Int)) = true := by simp; omega
        have hw : IntKind.i64.wrap ((i : Nat) + 1 : Int) = ((i + 1 : Nat) : Int) := by rw [wrap64 (by omega) (by omega)]; omega
        have hwr : IntKind.i64.wrap ((runsV t i : Nat) + 1 : Int) = ((runsV t i + 1 : Nat) : Int) := by rw [wrap64 (by omega) (by omega)]; omega
        have hm3 : z.tmod 3 = z % 3 := Int.tmod_eq_emod_of_nonneg hzm.1
        have hm26 : z.tmod 26 = z % 26 := Int.tmod_eq_emod_of_nonneg hzm.1
        have h30 : ¬ ((3 : Int) = 0) := by decide
        have h260 : ¬ ((26 : Int) = 0) := by decide
        -- the code point
        have hchr : ∀ J : AV → Res, (eCond (.b (decide (0 < z.tmod 3))) (pIadrS (S (b0 :: rowsOf (I.t 1) (t.take i) x lit g) nx) 1 v (.i .i64 (i : Nat)) fun v113 => pLoad (S (b0 :: rowsOf (I.t 1) (t.take i) x lit g) nx) false 1 v113 fun v114 => bRem v114 (.i .u8 26) fun v115 => pInt .i32 v115 fun v116 => bAdd (.i .i32 97) v116 fun v117 => J v117) (J (.i .i32 32))) = J (.i .i32 (chrW z)) := by
          intro J
          rw [eCond_b, (encI .u8).iadr (kk := 1) hv rfl rfl hlt, (encI .u8).load_f (kk := 1) (o := 0) rfl hz (by decide)]
          simp only [encI, args0, args1, args2, args3, args4, jn_d, jv_d, jr_d, callK_ret, eCond_b, eGuard_b, pPick_b, pUn_not, eLeave_nil, bAdd_i, bSub_i, bMul_i, bQuo_i, bRem_i, bEql_i, bNeq_i, bLss_i, bLeq_i, bGtr_i, bGeq_i, bEql_s, bNeq_s, bLss_s, pInt_i, pLen_s, pLen_sl, pLen_gr, pLen_ns, pLen_sz, pBuild_d, fillK_nil, cond_true, cond_false, Bool.not_true, Bool.not_false, Bool.cond_self, List.length_nil, List.length_cons, List.nil_append, List.cons_append, List.append_nil, List.append_assoc, List.length_append, List.getElem?_cons_zero, List.getElem?_cons_succ, List.drop_succ_cons, List.drop_zero, List.drop_nil, List.take_succ_cons, List.take_zero, List.take_nil, List.set_cons_zero, List.set_cons_succ, Nat.zero_add, Nat.add_zero, Nat.zero_mul, Nat.mul_one, Nat.one_mul, Nat.reduceAdd, Nat.reduceMul, Nat.reduceSub, kont_v, AV.cells_i, AV.cells_s, AV.cells_b, AV.cells_agg, AV.cells_sl, if_neg h260, hm3, hm26]
          rw [show IntKind.i32.wrap (z % 26) = z % 26 from wrap32 (by omega) (by omega), show IntKind.i32.wrap (97 + z % 26) = 97 + z % 26 from wrap32 (by omega) (by omega)]
          unfold chrW
          by_cases h3 : 0 < z % 3
          · rw [decide_eq_true h3, if_pos h3]; rfl
          · rw [decide_eq_false h3, if_neg h3]; rfl
        simp only [B_LWordsl6, B_LWordsj5, jn_d, (encI .u8).pLen_v hv, bLss_i, hd, eCond_b (true), cond_true]
        rw [(encI .u8).iadr (kk := 1) hv rfl rfl hlt, (encI .u8).load_f (kk := 1) (o := 0) rfl hz (by decide)]
        simp only [encI, List.getElem?_cons_zero, kont_v, bRem_i, if_neg h30, bGtr_i]
        rw [hchr]
        unfold B_LWordsj4
        simp only [jn_d, bEql_i]
        have hfin : ∀ (c : Nat), B_LWordsj3 I R (.i .i32 (chrW z)) (rowV (t.take i) x) (B_LWordsj2 I R (.i .i64 (i : Nat)) K) (.i .i64 (c : Nat)) [] (S (b0 :: rowsOf (I.t 1) (t.take i) x lit g) nx) = K (rowV (t.take (i + 1)) x1) (.i .i64 (c : Nat)) (.i .i64 ((i + 1 : Nat) : Int)) [] (S (b0 :: rowsOf (I.t 1) (t.take (i + 1)) x1 lit1 g1) nx1) := by
          intro c
          unfold B_LWordsj3
          rw [happ, htake]
          simp only [B_LWordsj2, bAdd_i, hw]
        rw [hrun]
        by_cases hi0 : i = 0
        · have d0 : decide ((i : Int) = 0) = true := by simp; exact hi0
          have ht0 : turnP t i = true := by simp [turnP, hi0]
          rw [ht0]
          simp only [d0, args0, args1, args2, args3, args4, jn_d, jv_d, jr_d, callK_ret, eCond_b, eGuard_b, pPick_b, pUn_not, eLeave_nil, bAdd_i, bSub_i, bMul_i, bQuo_i, bRem_i, bEql_i, bNeq_i, bLss_i, bLeq_i, bGtr_i, bGeq_i, bEql_s, bNeq_s, bLss_s, pInt_i, pLen_s, pLen_sl, pLen_gr, pLen_ns, pLen_sz, pBuild_d, fillK_nil, cond_true, cond_false, Bool.not_true, Bool.not_false, Bool.cond_self, List.length_nil, List.length_cons, List.nil_append, List.cons_append, List.append_nil, List.append_assoc, List.length_append, List.getElem?_cons_zero, List.getElem?_cons_succ, List.drop_succ_cons, List.drop_zero, List.drop_nil, List.take_succ_cons, List.take_zero, List.take_nil, List.set_cons_zero, List.set_cons_succ, Nat.zero_add, Nat.add_zero, Nat.zero_mul, Nat.mul_one, Nat.one_mul, Nat.reduceAdd, Nat.reduceMul, Nat.reduceSub, kont_v, AV.cells_i, AV.cells_s, AV.cells_b, AV.cells_agg, AV.cells_sl, if_true, hwr]
          exact hfin _
        · have d0 : decide ((i : Int) = 0) = false := by simp; exact hi0
          have ht1 : turnP t i = xor true (decide (chrW z = 32) == cls ((t[i - 1]?).getD 0)) := by
            unfold turnP
            rw [decide_eq_false hi0, Bool.false_or, hti]
            rfl
          have hprev : (t.take i)[i - 1]? = some ((t[i - 1]?).getD 0) := by
            rw [List.getElem?_take, if_pos (by omega), List.getElem?_eq_getElem (by omega)]; rfl
          have hrow : ∃ y a, t.take i = y :: a := by
            cases hh : t.take i with
            | nil => rw [hh] at hlen; simp at hlen; omega
            | cons y a => exact ⟨y, a, rfl⟩
          have hiad : ∀ k, pIadrS (S (b0 :: rowsOf (I.t 1) (t.take i) x lit g) nx) 1 (rowV (t.take i) x) (.i .i64 (IntKind.i64.wrap ((i : Nat) - 1 : Int))) k = k (.p 2 x 1 (i - 1) 0) := by
            intro k
            rw [wrap64 (by omega) (by omega)]
            have hrv : rowV (t.take i) x = .gr 2 x 0 i 1 := by
              obtain ⟨y, a, hya⟩ := hrow
              rw [hya] at hlen ⊢
              simp only [rowV, hlen]
            rw [hrv, pIadrS_gr (m := i - 1) (st' := x) (T := I.t 1) (fz := 0) (cs := (t.take i).map (.i .i32)) (by obtain ⟨y, a, hya⟩ := hrow; rw [hya]; rfl) rfl (by omega) (by omega), Nat.zero_add]
          have hld : ∀ k, pLoad (S (b0 :: rowsOf (I.t 1) (t.take i) x lit g) nx) false 1 (.p 2 x 1 (i - 1) 0) k = k (.i .i32 ((t[i - 1]?).getD 0)) := by
            intro k
            rw [pLoad_Sf (st' := x) (T := I.t 1) (fz := 0) (cs := (t.take i).map (.i .i32)) (by obtain ⟨y, a, hya⟩ := hrow; rw [hya]; rfl) rfl (by decide) (by simp; omega)]
            simp only [Nat.mul_one, Nat.add_zero, List.getElem?_map, hprev, Option.map_some, kont_v]
          simp only [d0, args0, args1, args2, args3, args4, jn_d, jv_d, jr_d, callK_ret, eCond_b, eGuard_b, pPick_b, pUn_not, eLeave_nil, bAdd_i, bSub_i, bMul_i, bQuo_i, bRem_i, bEql_i, bNeq_i, bLss_i, bLeq_i, bGtr_i, bGeq_i, bEql_s, bNeq_s, bLss_s, pInt_i, pLen_s, pLen_sl, pLen_gr, pLen_ns, pLen_sz, pBuild_d, fillK_nil, cond_true, cond_false, Bool.not_true, Bool.not_false, Bool.cond_self, List.length_nil, List.length_cons, List.nil_append, List.cons_append, List.append_nil, List.append_assoc, List.length_append, List.getElem?_cons_zero, List.getElem?_cons_succ, List.drop_succ_cons, List.drop_zero, List.drop_nil, List.take_succ_cons, List.take_zero, List.take_nil, List.set_cons_zero, List.set_cons_succ, Nat.zero_add, Nat.add_zero, Nat.zero_mul, Nat.mul_one, Nat.one_mul, Nat.reduceAdd, Nat.reduceMul, Nat.reduceSub, kont_v, AV.cells_i, AV.cells_s, AV.cells_b, AV.cells_agg, AV.cells_sl, hiad, hld, pEq_bool]
          rw [ht1]
          unfold cls
          cases xor true (decide (chrW z = 32) == decide ((t[i - 1]?).getD 0 = 32)) with
          | true => simp only [args0, args1, args2, args3, args4, jn_d, jv_d, jr_d, callK_ret, eCond_b, eGuard_b, pPick_b, pUn_not, eLeave_nil, bAdd_i, bSub_i, bMul_i, bQuo_i, bRem_i, bEql_i, bNeq_i, bLss_i, bLeq_i, bGtr_i, bGeq_i, bEql_s, bNeq_s, bLss_s, pInt_i, pLen_s, pLen_sl, pLen_gr, pLen_ns, pLen_sz, pBuild_d, fillK_nil, cond_true, cond_false, Bool.not_true, Bool.not_false, Bool.cond_self, List.length_nil, List.length_cons, List.nil_append, List.cons_append, List.append_nil, List.append_assoc, List.length_append, List.getElem?_cons_zero, List.getElem?_cons_succ, List.drop_succ_cons, List.drop_zero, List.drop_nil, List.take_succ_cons, List.take_zero, List.take_nil, List.set_cons_zero, List.set_cons_succ, Nat.zero_add, Nat.add_zero, Nat.zero_mul, Nat.mul_one, Nat.one_mul, Nat.reduceAdd, Nat.reduceMul, Nat.reduceSub, kont_v, AV.cells_i, AV.cells_s, AV.cells_b, AV.cells_agg, AV.cells_sl, if_true, hwr]; exact hfin _
          | false => simp only [args0, args1, args2, args3, args4, jn_d, jv_d, jr_d, callK_ret, eCond_b, eGuard_b, pPick_b, pUn_not, eLeave_nil, bAdd_i, bSub_i, bMul_i, bQuo_i, bRem_i, bEql_i, bNeq_i, bLss_i, bLeq_i, bGtr_i, bGeq_i, bEql_s, bNeq_s, bLss_s, pInt_i, pLen_s, pLen_sl, pLen_gr, pLen_ns, pLen_sz, pBuild_d, fillK_nil, cond_true, cond_false, Bool.not_true, Bool.not_false, Bool.cond_self, List.length_nil, List.length_cons, List.nil_append, List.cons_append, List.append_nil, List.append_assoc, List.length_append, List.getElem?_cons_zero, List.getElem?_cons_succ, List.drop_succ_cons, List.drop_zero, List.drop_nil, List.take_succ_cons, List.take_zero, List.take_nil, List.set_cons_zero, List.set_cons_succ, Nat.zero_add, Nat.add_zero, Nat.zero_mul, Nat.mul_one, Nat.one_mul, Nat.reduceAdd, Nat.reduceMul, Nat.reduceSub, kont_v, AV.cells_i, AV.cells_s, AV.cells_b, AV.cells_agg, AV.cells_sl, Bool.false_eq_true, if_false]; exact hfin _
  obtain ⟨x', nx', lit', g', hg', hrun⟩ := key l.length 0 30000 0 1 none [] (by omega) (by omega) (by simp)
  have h1 : (lp [5,6,7] 30000 (B_LWordsl6 I R v (B_LWordsj1 I R (.b true) (.p 0 0 2 0 0))) .ns (.i .i64 0) (.i .i64 0) [] (S [b0] 1)) = B_LWordsj1 I R (.b true) (.p 0 0 2 0 0) (rowV t x') (.i .i64 (runsV t l.length : Nat)) [] (S (b0 :: rowsOf (I.t 1) t x' lit' g') nx') := hrun
  have hne : t ≠ [] := fun e => h0 (by rw [e] at htl; exact List.eq_nil_of_length_eq_zero htl.symm)
  have htc : ∀ c ∈ t, c = 32 ∨ (97 ≤ c ∧ c ≤ 122) := by
    intro c hc
    obtain ⟨z, hz, rfl⟩ := List.mem_map.1 hc
    exact chrW_cls z (hl8 z hz).1
  obtain ⟨y, a, hya⟩ : ∃ y a, t = y :: a := by
    cases hh : t with
    | nil => exact absurd hh hne
    | cons y a => exact ⟨y, a, rfl⟩
  have hrv : rowV t x' = .gr 2 x' 0 l.length 1 := by rw [← htl, hya]; rfl
  have hat : (b0 :: rowsOf (I.t 1) t x' lit' g')[2]? = some (some (.cells x' false (I.t 1) 0 (t.map (.i .i32)))) := by rw [hya]; rfl
  have hlen : (b0 :: rowsOf (I.t 1) t x' lit' g').length ≤ 999999999 := by rw [hya]; simp [rowsOf]; omega
  have hin : mapO (inlN 4 (S (b0 :: rowsOf (I.t 1) t x' lit' g') nx')) [.agg [rv, sk], .gr 2 x' 0 l.length 1] = some [.agg [rv, sk], .sl 1 l.length (t.map (.i .i32))] := by
    refine mapO_c (inlN_clo (by simp only [Clo, CloL, and_true]; exact ⟨encRule.clo_of hr, encS.clo_of hk⟩)) (mapO_c ?_ rfl)
    rw [inlN_gr hat rfl (by rw [CloL_iff]; intro x hx; obtain ⟨b, _, rfl⟩ := List.mem_map.1 hx; simp only [Clo]) (by simp; omega), List.take_of_length_le (by simp; omega)]
  have hdec : encR32.decS (.sl 1 l.length (t.map (.i .i32))) = some t := by
    have := encR32.decS_sl t
    rw [Enc.sl, htl] at this
    have e2 : encR32.encL t = t.map (.i .i32) := by
      simp only [Enc.encL]
      rw [← List.flatMap_singleton' (t.map (AV.i .i32))]
      simp [List.flatMap_map, encI]
    rw [e2] at this
    exact this
  have hF : CutsF I isOk isBk [.agg [rv, sk], .sl 1 l.length (t.map (.i .i32))] = some (I.t 10, (cutsV wordsRs t).length, 1, ((cutsV wordsRs t).map fun (n : Nat) => (n : Int)).map (.i .i64)) := by
    simp only [CutsF, hr, hk, hdec]
    rw [if_pos ⟨hbk, hok, by decide, by omega⟩]
  have hpl := words_plain htc hne
  rw [htl] at hpl
  have hcall := rowOv_S (R := R) hin hF (by omega) hlen
  rw [hpl] at hcall
  have hrl : runsV t l.length ≤ l.length := by
    unfold runsV
    have := List.length_filter_le (turnP t) (List.range l.length)
    simpa using this
  have hw : IntKind.i64.wrap ((runsV t l.length : Nat) + 1 : Int) = ((runsV t l.length + 1 : Nat) : Int) := by rw [wrap64 (by omega) (by omega)]; omega
  have hend : B_LWordsj1 I R (.b true) (.p 0 0 2 0 0) (rowV t x') (.i .i64 (runsV t l.length : Nat)) [] (S (b0 :: rowsOf (I.t 1) t x' lit' g') nx') = some (.ret (.b true) (S ((b0 :: rowsOf (I.t 1) t x' lit' g') ++ [some (.cells nx' false (I.t 10) 0 (((cutsV wordsRs t).map fun (n : Nat) => (n : Int)).map (.i .i64)))]) (nx' + 1))) := by
    unfold B_LWordsj1
    simp only [args0, args1, args2, args3, args4, jn_d, jv_d, jr_d, callK_ret, eCond_b, eGuard_b, pPick_b, pUn_not, eLeave_nil, bAdd_i, bSub_i, bMul_i, bQuo_i, bRem_i, bEql_i, bNeq_i, bLss_i, bLeq_i, bGtr_i, bGeq_i, bEql_s, bNeq_s, bLss_s, pInt_i, pLen_s, pLen_sl, pLen_gr, pLen_ns, pLen_sz, pBuild_d, fillK_nil, cond_true, cond_false, Bool.not_true, Bool.not_false, Bool.cond_self, List.length_nil, List.length_cons, List.nil_append, List.cons_append, List.append_nil, List.append_assoc, List.length_append, List.getElem?_cons_zero, List.getElem?_cons_succ, List.drop_succ_cons, List.drop_zero, List.drop_nil, List.take_succ_cons, List.take_zero, List.take_nil, List.set_cons_zero, List.set_cons_succ, Nat.zero_add, Nat.add_zero, Nat.zero_mul, Nat.mul_one, Nat.one_mul, Nat.reduceAdd, Nat.reduceMul, Nat.reduceSub, kont_v, AV.cells_i, AV.cells_s, AV.cells_b, AV.cells_agg, AV.cells_sl]
    rw [pLoad_St (r := 0) (st' := 0) (cs := [rv, sk]) (T := I.t 8) (fz := 0) rfl rfl (by decide) (by simp)]
    simp only [args0, args1, args2, args3, args4, jn_d, jv_d, jr_d, callK_ret, eCond_b, eGuard_b, pPick_b, pUn_not, eLeave_nil, bAdd_i, bSub_i, bMul_i, bQuo_i, bRem_i, bEql_i, bNeq_i, bLss_i, bLeq_i, bGtr_i, bGeq_i, bEql_s, bNeq_s, bLss_s, pInt_i, pLen_s, pLen_sl, pLen_gr, pLen_ns, pLen_sz, pBuild_d, fillK_nil, cond_true, cond_false, Bool.not_true, Bool.not_false, Bool.cond_self, List.length_nil, List.length_cons, List.nil_append, List.cons_append, List.append_nil, List.append_assoc, List.length_append, List.getElem?_cons_zero, List.getElem?_cons_succ, List.drop_succ_cons, List.drop_zero, List.drop_nil, List.take_succ_cons, List.take_zero, List.take_nil, List.set_cons_zero, List.set_cons_succ, Nat.zero_add, Nat.add_zero, Nat.zero_mul, Nat.mul_one, Nat.one_mul, Nat.reduceAdd, Nat.reduceMul, Nat.reduceSub, kont_v, AV.cells_i, AV.cells_s, AV.cells_b, AV.cells_agg, AV.cells_sl]
    rw [hcuts, hrv, hcall]
    simp only [args0, args1, args2, args3, args4, jn_d, jv_d, jr_d, callK_ret, eCond_b, eGuard_b, pPick_b, pUn_not, eLeave_nil, bAdd_i, bSub_i, bMul_i, bQuo_i, bRem_i, bEql_i, bNeq_i, bLss_i, bLeq_i, bGtr_i, bGeq_i, bEql_s, bNeq_s, bLss_s, pInt_i, pLen_s, pLen_sl, pLen_gr, pLen_ns, pLen_sz, pBuild_d, fillK_nil, cond_true, cond_false, Bool.not_true, Bool.not_false, Bool.cond_self, List.length_nil, List.length_cons, List.nil_append, List.cons_append, List.append_nil, List.append_assoc, List.length_append, List.getElem?_cons_zero, List.getElem?_cons_succ, List.drop_succ_cons, List.drop_zero, List.drop_nil, List.take_succ_cons, List.take_zero, List.take_nil, List.set_cons_zero, List.set_cons_succ, Nat.zero_add, Nat.add_zero, Nat.zero_mul, Nat.mul_one, Nat.one_mul, Nat.reduceAdd, Nat.reduceMul, Nat.reduceSub, kont_v, AV.cells_i, AV.cells_s, AV.cells_b, AV.cells_agg, AV.cells_sl, hw, decide_true]
  exact ⟨_, h1.trans hend⟩
end
end Hb
end

section
set_option linter.unusedVariables false
set_option linter.unusedSimpArgs false
set_option linter.constructorNameAsVariable false
set_option autoImplicit false
set_option linter.unusedVariables false
set_option linter.unusedSimpArgs false
set_option linter.constructorNameAsVariable false
namespace Hb
open Go
def RowAt (k : IntKind) (T : Nat) (a : List Int) (v : AV) (l : List (Option Blk)) : Prop :=
  (a = [] ∧ v = .ns) ∨ (a = [] ∧ ∃ r st T', v = .gr r st 0 0 1 ∧ l[r]? = some (some (.cells st true T' 0 []))) ∨ (a ≠ [] ∧ ∃ r st, v = .gr r st 0 a.length 1 ∧ l[r]? = some (some (.cells st false T 0 (a.map (.i k)))))
def Off (v : AV) (r : Nat) : Prop := ∀ st i n k, v ≠ .gr r st i n k
theorem RowAt.keep {k : IntKind} {T : Nat} {a : List Int} {v : AV} {l l' : List (Option Blk)} (h : RowAt k T a v l) (hk : ∀ r, ¬ Off v r → l'[r]? = l[r]?) : RowAt k T a v l' := by
  rcases h with h | ⟨h1, r, st, T', rfl, h2⟩ | ⟨h1, r, st, rfl, h2⟩
  · exact .inl h
  · exact .inr (.inl ⟨h1, r, st, T', rfl, (hk r fun h => h _ _ _ _ rfl).trans h2⟩)
  · exact .inr (.inr ⟨h1, r, st, rfl, (hk r fun h => h _ _ _ _ rfl).trans h2⟩)
theorem RowAt.lt {k : IntKind} {T : Nat} {a : List Int} {v : AV} {l : List (Option Blk)} (h : RowAt k T a v l) : ∀ r, ¬ Off v r → r < l.length := by
  intro r hr
  rcases h with ⟨_, rfl⟩ | ⟨h1, r', st, T', rfl, h2⟩ | ⟨h1, r', st, rfl, h2⟩
  · exact absurd (fun st i n k e => by cases e) hr
  · by_cases e : r' = r
    · subst e; exact (List.getElem?_eq_some_iff.1 h2).1
    · exact absurd (fun st i n k e' => e (by cases e'; rfl)) hr
  · by_cases e : r' = r
    · subst e; exact (List.getElem?_eq_some_iff.1 h2).1
    · exact absurd (fun st i n k e' => e (by cases e'; rfl)) hr
def Grow (v : AV) (l l' : List (Option Blk)) : Prop := l.length ≤ l'.length ∧ l'.length ≤ l.length + 2 ∧ ∀ r, r < l.length → Off v r → l'[r]? = l[r]?
def Same (v v1 : AV) (l : List (Option Blk)) : Prop := ∀ r, r < l.length → Off v r → Off v1 r
theorem fill1 {k : IntKind} {z : Int} {C : List AV → Res} : fillK [.i k 0] [(0, 1, .i k z)] C = C [.i k z] := rfl
theorem Off.gr {r r' st i n k : Nat} (h : Off (.gr r' st i n k) r) : r ≠ r' := fun e => h st i n k (by rw [e])
theorem Off.of {r r' st i n k : Nat} (h : r ≠ r') : Off (.gr r' st i n k) r := fun _ _ _ _ e => h (by cases e; rfl)
theorem Off.ns {r : Nat} : Off .ns r := fun _ _ _ _ e => by cases e
theorem pApp_vS {l : List (Option Blk)} {nx r st st' T T' fz n m : Nat} {cs new : List AV} {k : KV} (h : l[r]? = some (some (.cells st' true T' fz cs))) (hst : st' = st) (hn : n ≤ 1048576) (hm0 : 0 < m) (hm : m ≤ 1048576) (hl : l.length ≤ 999999999) :
    pApp (S l nx) T 1 (.gr r st 0 n 1) m new k = k (.gr r nx 0 m 1) (S (l.set r (some (.cells nx false T 0 new))) (nx + 1)) := by
  show cond (Nat.ble m 1048576) (cond (Nat.beq 1 1) (cond (Nat.ble n 1048576) (sAt (S l nx) r st fun b => (match b with
      | .cells _ true _ _ _ => cond (Nat.beq m 0) (k (.gr r st 0 n 1) (S l nx)) (pPut1 (S l nx) r (fun x => .cells x false T 0 new) fun x s' => k (.gr r x 0 m 1) s')
      | .cells _ false T' fz old => cond (Nat.beq m 0) (k (.gr r st 0 n 1) (S l nx))
          (cond (Nat.beq T' T) (cond (Nat.beq 0 0)
            (cond (Nat.ble (Nat.mul n 1) (lenR old)) (cond (Nat.ble fz (Nat.succ (Nat.mul n 1))) (appK (cnl (Nat.beq (Nat.mul n 1) (lenR old)) old (takeR old (Nat.mul n 1))) new fun all => frcN (Nat.add n m) fun nm =>
              pPut1 (S l nx) r (fun x => .cells x false T fz all) fun x s' => k (.gr r x 0 nm 1) s') none) none)
            (cond (Nat.ble (Nat.add (Nat.mul 0 1) (Nat.mul n 1)) (lenR old)) (cond (Nat.ble fz 1) (appK (takeR (dropR old (Nat.mul 0 1)) (Nat.mul n 1)) new fun all => frcN (Nat.add n m) fun nm =>
              pPut1 (S l nx) r (fun x => .cells x false T 1 all) fun x s' => k (.gr r x 0 nm 1) s') none) none)) none)
      | _ => none)) none) none) none = _
  rw [Nat.ble_eq_true_of_le hm, Nat.ble_eq_true_of_le hn, S_sAt h hst]
  simp only [beqN, decide_true, cond_true]
  rw [decide_eq_false (by omega), cond_false]
  have hr := (List.getElem?_eq_some_iff.1 h).1
  rw [S_put1 hr hl]
theorem row_appG {k : IntKind} {T : Nat} {a : List Int} {v : AV} {l : List (Option Blk)} {nx : Nat} (h : RowAt k T a v l) (ha : a.length < 100000) (hl : l.length < 900000000) (z : Int) :
    ∃ v1 l1 nx1, RowAt k T (a ++ [z]) v1 l1 ∧ Grow v l l1 ∧ Same v v1 l ∧
      ∀ C : AV → ES → Res, (pLit (S l nx) T 1 1 [.i k 0] [(0, 1, .i k z)] fun x s => pAppend s T 1 v x fun y s => C y s) = C v1 (S l1 nx1) := by
  have hlit : ∀ C : AV → ES → Res, (pLit (S l nx) T 1 1 [.i k 0] [(0, 1, .i k z)] fun x s => pAppend s T 1 v x fun y s => C y s) =
      pApp (S (l ++ [some (.cells nx false T 0 [.i k z])]) (nx + 1)) T 1 v 1 [.i k z] C := by
    intro C
    rw [pLit_S (by omega), fill1]
    unfold pAppend
    rw [cellsK_gr (r := l.length) (st' := nx) (T := T) (fz := 0) (cs := [.i k z]) (by simp) rfl (by simp)]
    rfl
  have hmid : ∀ r, r < l.length → (l ++ [some (.cells nx false T 0 [AV.i k z])])[r]? = l[r]? := fun r hr => List.getElem?_append_left hr
  rcases h with ⟨rfl, rfl⟩ | ⟨rfl, r, st, T', rfl, h2⟩ | ⟨hne, r, st, rfl, h2⟩
  · refine ⟨.gr (l.length + 1) (nx + 1) 0 1 1, l ++ [some (Blk.cells nx false T 0 [AV.i k z])] ++ [some (.cells (nx + 1) false T 0 [.i k z])], nx + 1 + 1, .inr (.inr ⟨by simp, _, _, rfl, by simp⟩), ⟨by simp, by simp, fun r hr _ => by rw [List.getElem?_append_left (by simp; omega), hmid r hr]⟩, fun r hr _ => Off.of (by omega), fun C => ?_⟩
    rw [hlit, pApp_nsS (by decide) (by decide) (by simp; omega)]
    simp
  · have hr := (List.getElem?_eq_some_iff.1 h2).1
    refine ⟨.gr r (nx + 1) 0 1 1, (l ++ [some (Blk.cells nx false T 0 [AV.i k z])]).set r (some (.cells (nx + 1) false T 0 [.i k z])), nx + 1 + 1, .inr (.inr ⟨by simp, _, _, rfl, by rw [List.getElem?_set_self (by simp; omega)]; simp⟩), ⟨by simp, by simp, fun q hq ho => by rw [List.getElem?_set_ne (Ne.symm ho.gr), hmid q hq]⟩, fun q hq ho => Off.of ho.gr, fun C => ?_⟩
    rw [hlit, pApp_vS (by rw [hmid r hr]; exact h2) rfl (by decide) (by decide) (by decide) (by simp; omega)]
  · have hr := (List.getElem?_eq_some_iff.1 h2).1
    refine ⟨.gr r (nx + 1) 0 (a.length + 1) 1, (l ++ [some (Blk.cells nx false T 0 [AV.i k z])]).set r (some (.cells (nx + 1) false T 0 (a.map (.i k) ++ [.i k z]))), nx + 1 + 1, .inr (.inr ⟨by simp, r, nx + 1, by simp, by rw [List.getElem?_set_self (by simp; omega)]; simp⟩), ⟨by simp, by simp, fun q hq ho => by rw [List.getElem?_set_ne (Ne.symm ho.gr), hmid q hq]⟩, fun q hq ho => Off.of ho.gr, fun C => ?_⟩
    rw [hlit, pApp_grS (st' := st) (old := a.map (.i k)) (by rw [hmid r hr]; exact h2) rfl (by simp) (by decide) (by decide) (by omega) (by simp; omega)]
theorem RowAt.len {k : IntKind} {T : Nat} {a : List Int} {v : AV} {l : List (Option Blk)} (h : RowAt k T a v l) (K : KP) : pLen false v K = K (.i .i64 (a.length : Nat)) := by
  rcases h with ⟨rfl, rfl⟩ | ⟨rfl, r, st, T', rfl, h2⟩ | ⟨hne, r, st, rfl, h2⟩
  · exact pLen_ns K
  · exact pLen_gr _ _ _ _ _ K
  · exact pLen_gr _ _ _ _ _ K
theorem RowAt.at {k : IntKind} {T : Nat} {a : List Int} {v : AV} {l : List (Option Blk)} (h : RowAt k T a v l) {nx i : Nat} {x : Int} {kd : IntKind} {z : Int} (hx : a[i]? = some x) (hz : z = (i : Nat)) (K : KP) :
    (pIadrS (S l nx) 1 v (.i kd z) fun p => pLoad (S l nx) false 1 p K) = K (.i k x) := by
  have hlt : i < a.length := (List.getElem?_eq_some_iff.1 hx).1
  rcases h with ⟨rfl, rfl⟩ | ⟨rfl, r, st, T', rfl, h2⟩ | ⟨hne, r, st, rfl, h2⟩
  · simp at hx
  · simp at hx
  · rw [pIadrS_gr (m := i) h2 rfl hz hlt, Nat.zero_add, pLoad_Sf h2 rfl (by decide) (by simp; omega)]
    simp only [Nat.mul_one, Nat.add_zero, List.getElem?_map, hx, Option.map_some, kont_v]
end Hb
end

section
set_option linter.unusedVariables false
set_option linter.unusedSimpArgs false
set_option linter.constructorNameAsVariable false
set_option autoImplicit false
set_option linter.unusedVariables false
set_option linter.unusedSimpArgs false
set_option linter.constructorNameAsVariable false
namespace Hb
open Go
def ints17F : List AV → Option AV
  | [v, w] => match encI64.decS v, encI64.decS w with
    | some a, some b => if a.length < 20000 then some (.b (decide (a = b))) else none
    | _, _ => none
  | _ => none
theorem ints17_c (I : Ids) (R : Rec) (as : List AV) (v : AV) (h : ints17F as = some v) : Tot (fun v0 s0 => ∃ v', Inl Fla s0.st.1 v0 v' ∧ v' = v) (B_ints17 I R as (S [] 0)) := by
  unfold ints17F at h
  split at h
  case h_2 => cases h
  rename_i v1 v2
  split at h
  case h_2 => cases h
  rename_i a b h1 h2
  split at h
  case isFalse => cases h
  rename_i hl
  cases h
  have key : ∀ (m i fuel : Nat), i + m = a.length → m < fuel → a.length = b.length → a.take i = b.take i →
      lp [5] fuel (B_ints17l4 I R v1 v2 (B_ints17j1 I R)) (.i .i64 (i : Nat)) [] (S [] 0) = some (.ret (.b (decide (a = b))) (S [] 0)) := by
    intro m
    induction m with
    | zero =>
      intro i fuel hi hf hab ht
      cases fuel with
      | zero => omega
      | succ f =>
        have hi : i = a.length := by omega
        subst hi
        have e : a = b := by
          rw [List.take_length, hab, List.take_length] at ht
          exact ht
        have hd : decide ((a.length : Int) < (a.length : Int)) = false := by simp
        rw [lp_s]
        simp only [B_ints17l4, B_ints17j1, jn_d, encI64.pLen_v h1, bLss_i, hd, eCond_b, cond_false, eLeave_nil, decide_eq_true e]
    | succ m ih =>
      intro i fuel hi hf hab ht
      cases fuel with
      | zero => omega
      | succ f =>
        have hlt : i < a.length := by omega
        obtain ⟨x, hx⟩ : ∃ x, a[i]? = some x := ⟨_, List.getElem?_eq_getElem hlt⟩
        obtain ⟨y, hy⟩ : ∃ y, b[i]? = some y := ⟨_, List.getElem?_eq_getElem (by omega)⟩
        have hd : decide ((i : Int) < (a.length : Int)) = true := by simp; omega
        have hw : IntKind.i64.wrap ((i : Nat) + 1 : Int) = ((i + 1 : Nat) : Int) := by rw [wrap64 (by omega) (by omega)]; omega
        rw [lp_s]
        have hrec : x = y → lp [5] f (B_ints17l4 I R v1 v2 (B_ints17j1 I R)) (.i .i64 ((i + 1 : Nat) : Int)) [] (S [] 0) = some (.ret (.b (decide (a = b))) (S [] 0)) := fun e =>
          ih (i + 1) f (by omega) (by omega) hab (by rw [List.take_add_one, List.take_add_one, ht, hx, hy, e])
        generalize hK : lp [5] f (B_ints17l4 I R v1 v2 (B_ints17j1 I R)) = K at hrec
        simp only [B_ints17l4, B_ints17j3, B_ints17j2, jn_d, encI64.pLen_v h1, bLss_i, hd, eCond_b, cond_true]
        rw [encI64.iadr (kk := 1) h1 rfl rfl hlt, encI64.load_f (kk := 1) (o := 0) rfl hx (by decide)]
        simp only [encI, List.getElem?_cons_zero, kont_v]
        rw [encI64.iadr (kk := 1) h2 rfl rfl (by omega), encI64.load_f (kk := 1) (o := 0) rfl hy (by decide)]
        simp only [encI, List.getElem?_cons_zero, kont_v, bNeq_i, eCond_b, bAdd_i, hw, eLeave_nil]
        by_cases e : x = y
        · rw [decide_eq_true e]
          exact hrec e
        · rw [decide_eq_false e]
          have hne : ¬ a = b := fun h => e (by rw [h, hy] at hx; exact (Option.some.inj hx).symm)
          rw [decide_eq_false hne]
          rfl
  unfold B_ints17
  simp only [args2, jn_d, encI64.pLen_v h1, encI64.pLen_v h2, bNeq_i, eCond_b]
  by_cases hab : a.length = b.length
  · have hd : decide ((a.length : Int) = (b.length : Int)) = true := by simp; omega
    rw [hd]
    have hk := key a.length 0 30000 (by omega) (by omega) hab (by simp)
    have : B_ints17j5 I R v1 v2 [] (S [] 0) = some (.ret (.b (decide (a = b))) (S [] 0)) := by
      unfold B_ints17j5
      simp only [jn_d]
      exact hk
    simp only [Bool.not_true, cond_false, this]
    exact Tot.ret ⟨_, .clo _ (by simp only [Fla]), rfl⟩
  · have hd : decide ((a.length : Int) = (b.length : Int)) = false := by simp; omega
    have hne : ¬ a = b := fun h => hab (by rw [h])
    rw [hd, decide_eq_false hne]
    exact Tot.ret ⟨_, .clo _ (by simp only [Fla]), rfl⟩
theorem fitsV_take {e : Side} {t : List Int} {k i : Nat} {back : Bool} (h0 : 0 < i) (h1 : i < k) (h2 : k ≤ t.length) : fitsV e (t.take k) i back = fitsV e t i back := by
  cases e with
  | none => rfl
  | set s =>
    have a1 : (t.take k)[i]? = t[i]? := by rw [List.getElem?_take, if_pos h1]
    have a2 : (t.take k)[i - 1]? = t[i - 1]? := by rw [List.getElem?_take, if_pos (by omega)]
    have a3 : decide (i < (t.take k).length) = decide (i < t.length) := by
      rw [List.length_take, decide_eq_decide]; omega
    simp only [fitsV, a1, a2, a3]
theorem fitsV_drop {e : Side} {t : List Int} {k i : Nat} {back : Bool} (h0 : 0 < i) (h1 : k + i < t.length) : fitsV e (t.drop k) i back = fitsV e t (k + i) back := by
  cases e with
  | none => rfl
  | set s =>
    have a1 : (t.drop k)[i]? = t[k + i]? := by rw [List.getElem?_drop]
    have a2 : (t.drop k)[i - 1]? = t[k + i - 1]? := by rw [List.getElem?_drop, show k + (i - 1) = k + i - 1 from by omega]
    have a3 : decide (i < (t.drop k).length) = decide (k + i < t.length) := by
      rw [List.length_drop, decide_eq_decide]; omega
    have a4 : decide (0 < i) = decide (0 < k + i) := by rw [decide_eq_decide]; omega
    simp only [fitsV, a1, a2, a3, a4]
theorem cutV_take {rs : List RuleV} {t : List Int} {k i : Nat} (h0 : 0 < i) (h1 : i < k) (h2 : k ≤ t.length) : cutV rs (t.take k) i = cutV rs t i := by
  unfold cutV
  simp only [fitsV_take h0 h1 h2]
theorem cutV_drop {rs : List RuleV} {t : List Int} {k i : Nat} (h0 : 0 < i) (h1 : k + i < t.length) : cutV rs (t.drop k) i = cutV rs t (k + i) := by
  unfold cutV
  simp only [fitsV_drop h0 h1]
def restV (k : Nat) (y : List Nat) : List Nat := (y.drop (if k = 0 then 0 else 1)).map (· + k)
theorem cutsV_nil {rs : List RuleV} : cutsV rs [] = [] := by unfold cutsV; simp
theorem cut_plain {rs : List RuleV} {t : List Int} {k : Nat} (ht : t ≠ []) (hk : k ∈ cutsV rs t) : cutsV rs (t.take k) ++ restV k (cutsV rs (t.drop k)) = cutsV rs t ∧ k ≤ t.length := by
  have hpos : 0 < t.length := List.length_pos_iff.2 ht
  have hle : k ≤ t.length := by
    rw [cutsV_eq ht] at hk
    simp only [List.mem_cons, List.mem_append, List.mem_filter, List.mem_range'_1, List.not_mem_nil, or_false] at hk
    omega
  refine ⟨?_, hle⟩
  by_cases h0 : k = 0
  · subst h0
    simp [restV, cutsV_nil]
  by_cases hn : k = t.length
  · subst hn
    simp [restV, cutsV_nil, h0]
  have hc : cutV rs t k = true := by
    rw [cutsV_eq ht] at hk
    simp only [List.mem_cons, List.mem_append, List.mem_filter, List.not_mem_nil, or_false] at hk
    rcases hk with h | h | h
    · exact absurd h h0
    · exact h.2
    · exact absurd h hn
  have e1 : t.take k ≠ [] := fun e => by
    have := congrArg List.length e
    rw [List.length_take] at this
    simp only [List.length_nil] at this; omega
  have e2 : t.drop k ≠ [] := fun e => by
    have := congrArg List.length e
    rw [List.length_drop] at this
    simp only [List.length_nil] at this; omega
  have l1 : (t.take k).length = k := by rw [List.length_take]; omega
  have l2 : (t.drop k).length = t.length - k := List.length_drop
  have f1 : (List.range' 1 (k - 1)).filter (cutV rs (t.take k)) = (List.range' 1 (k - 1)).filter (cutV rs t) := by
    apply List.filter_congr
    intro i hi
    have := List.mem_range'_1.1 hi
    exact cutV_take (by omega) (by omega) hle
  have f2 : ((List.range' 1 (t.length - k - 1)).filter (cutV rs (t.drop k))).map (· + k) = (List.range' (k + 1) (t.length - k - 1)).filter (cutV rs t) := by
    have g1 : (List.range' 1 (t.length - k - 1)).filter (cutV rs (t.drop k)) = (List.range' 1 (t.length - k - 1)).filter (cutV rs t ∘ (· + k)) := by
      apply List.filter_congr
      intro i hi
      have := List.mem_range'_1.1 hi
      show _ = cutV rs t (i + k)
      rw [cutV_drop (by omega) (by omega), Nat.add_comm]
    rw [g1, ← List.filter_map]
    congr 1
    apply List.ext_getElem
    · simp
    · intro j h1 h2
      simp [List.getElem_range']
      omega
  have f3 : List.range' 1 (t.length - 1) = List.range' 1 (k - 1) ++ (k :: List.range' (k + 1) (t.length - k - 1)) := by
    have : t.length - 1 = (k - 1) + ((t.length - k - 1) + 1) := by omega
    rw [this, ← List.range'_append_1, List.range'_succ]
    congr 2
    · omega
    · congr 1; omega
  rw [cutsV_eq e1, cutsV_eq e2, cutsV_eq ht, l1, l2, f1, f3, List.filter_append, List.filter_cons, hc]
  simp only [restV, if_neg h0, if_true, List.drop_succ_cons, List.drop_zero, List.map_append, List.map_cons, List.map_nil, f2]
  simp
  omega
end Hb
end

section
set_option linter.unusedVariables false
set_option linter.unusedSimpArgs false
set_option linter.constructorNameAsVariable false
set_option autoImplicit false
set_option linter.unusedVariables false
set_option linter.unusedSimpArgs false
set_option linter.constructorNameAsVariable false
namespace Hb
open Go
theorem avEq_gr (r st i n k : Nat) : avEq (.gr r st i n k) (.gr r st i n k) = true := by
  have : ∀ eq, avEq1 eq (.gr r st i n k) (.gr r st i n k) = true := fun eq => by unfold avEq1; simp
  exact this (Nat.rec (motive := fun _ => AV → AV → Bool) (fun _ _ => false) (fun _ ih x y => avEq1 ih x y) 19)
theorem inlN_grI {f : Nat} {l : List (Option Blk)} {nx r st st' T fz i n k : Nat} {cs : List AV} (h : l[r]? = some (some (.cells st' false T fz cs))) (hst : st' = st) (hc : CloL cs) (hle : (i + n) * k ≤ cs.length) :
    inlN (f + 2) (S l nx) (.gr r st i n k) = some (.sl k n ((cs.drop (i * k)).take (n * k))) := by
  rw [inlN_s]
  show inl1 (inlN (f + 1) (S l nx)) (S l nx) (.gr r st i n k) = _
  unfold inl1
  simp only
  rw [S_at h hst]
  simp only [lenR_eq, takeR_eq, dropR_eq]
  have e : Nat.mul (Nat.add i n) k = (i + n) * k := rfl
  have e2 : Nat.mul i k = i * k := rfl
  have e3 : Nat.mul n k = n * k := rfl
  have ht : CloL ((cs.drop (i * k)).take (n * k)) := by
    rw [CloL_iff] at hc ⊢
    exact fun x hx => hc x (List.mem_of_mem_drop (List.mem_of_mem_take hx))
  rw [e, e2, e3, Nat.ble_eq_true_of_le hle, mapO_clo ht]
  rfl
theorem pLsl_hi {l : List (Option Blk)} {nx r st n m T fz : Nat} {cs : List AV} {kd : IntKind} {z : Int} {k : KP} (h : l[r]? = some (some (.cells st false T fz cs))) (hz : z = (m : Nat)) (hm : m ≤ n) :
    pLsl (S l nx) 1 (.gr r st 0 n 1) none (some (.i kd z)) none k = k (.gr r st 0 m 1) := by
  subst hz
  show cond (Nat.beq 1 1) (sLive (S l nx) r st (cond (Nat.ble m n) (frcN (Nat.add 0 0) fun i => frcN (Nat.sub m 0) fun n => k (.gr r st i n 1)) none)) none = _
  simp only [sLive, frcN_eq, S_sAt (st := st) h rfl, Nat.ble_eq_true_of_le hm]
  rfl
theorem pLsl_lo {l : List (Option Blk)} {nx r st n m T fz : Nat} {cs : List AV} {kd : IntKind} {z : Int} {k : KP} (h : l[r]? = some (some (.cells st false T fz cs))) (hz : z = (m : Nat)) (hm : m ≤ n) :
    pLsl (S l nx) 1 (.gr r st 0 n 1) (some (.i kd z)) none none k = k (.gr r st m (n - m) 1) := by
  subst hz
  show cond (Nat.beq 1 1) (sLive (S l nx) r st (cond (Nat.ble m n) (frcN (Nat.add 0 m) fun i => frcN (Nat.sub n m) fun n => k (.gr r st i n 1)) none)) none = _
  simp only [sLive, frcN_eq, S_sAt (st := st) h rfl, Nat.ble_eq_true_of_le hm]
  rw [show Nat.add 0 m = m from Nat.zero_add m]
  rfl
theorem join0 {T : Nat} {a : List Int} {v : AV} {l : List (Option Blk)} (nx : Nat) (h : RowAt .i64 T a v l) (ha : a.length < 100000) (hl : l.length < 900000000) :
    ∃ v1 b, RowAt .i64 T a v1 (l ++ [b]) ∧ (∀ r, r < l.length → Off v1 r) ∧ ∀ C : AV → ES → Res, pAppend (S l nx) T 1 .ns v C = C v1 (S (l ++ [b]) (nx + 1)) := by
  have h0 : ∀ C : AV → ES → Res, pApp (S l nx) T 1 .ns 0 [] C = C (.gr l.length nx 0 0 1) (S (l ++ [some (.cells nx true T 0 [])]) (nx + 1)) := by
    intro C
    show cond (Nat.ble 0 1048576) (pPush (S l nx) (fun x => .cells x (Nat.beq 0 0) T 0 []) fun r x s' => C (.gr r x 0 0 1) s') none = _
    rw [Nat.ble_eq_true_of_le (by decide), cond_true, S_push (by omega), beqN, decide_eq_true rfl]
  rcases h with ⟨rfl, rfl⟩ | ⟨rfl, r, st, T', rfl, h2⟩ | ⟨hne, r, st, rfl, h2⟩
  · exact ⟨_, _, .inr (.inl ⟨rfl, l.length, nx, T, rfl, by simp⟩), fun r hr => Off.of (by omega), fun C => h0 C⟩
  · refine ⟨.gr l.length nx 0 0 1, some (.cells nx true T 0 []), .inr (.inl ⟨rfl, l.length, nx, T, rfl, by simp⟩), fun r hr => Off.of (by omega), fun C => ?_⟩
    rw [← h0 C]
    show cond (Nat.beq 1 1) (sAt (S l nx) r st fun b => (match b with
      | .cells _ true _ _ _ => pApp (S l nx) T 1 .ns 0 [] C
      | .cells _ false _ _ cs => cond (Nat.ble (Nat.add (Nat.mul 0 1) (Nat.mul 0 1)) (lenR cs)) (dropK cs (Nat.mul 0 1) fun d => takeK d (Nat.mul 0 1) fun l => pApp (S _ nx) T 1 .ns 0 l C) none
      | _ => none)) none = _
    rw [S_sAt (st := st) h2 rfl]
    rfl
  · refine ⟨.gr l.length nx 0 a.length 1, some (.cells nx false T 0 (a.map (.i .i64))), .inr (.inr ⟨hne, l.length, nx, rfl, by simp⟩), fun r hr => Off.of (by omega), fun C => ?_⟩
    unfold pAppend
    rw [cellsK_gr h2 rfl (by simp), List.take_of_length_le (by simp), pApp_nsS (List.length_pos_iff.2 hne) (by omega) (by omega)]
def litC : List Int := [97, 49, 769, 46, 32, 19968]
def chrC (z : Int) : Int := (litC[(z % 6).toNat]?).getD 0
theorem lit6 {C : List AV → Res} : fillK [.i .i32 0, .i .i32 0, .i .i32 0, .i .i32 0, .i .i32 0, .i .i32 0] [(0, 1, .i .i32 97), (1, 1, .i .i32 49), (2, 1, .i .i32 769), (3, 1, .i .i32 46), (4, 1, .i .i32 32), (5, 1, .i .i32 19968)] C = C (litC.map (.i .i32)) := rfl
theorem chrC_get {z : Int} (h0 : 0 ≤ z) : ∃ m : Nat, z % 6 = (m : Nat) ∧ m < 6 ∧ litC[m]? = some (chrC z) := by
  refine ⟨(z % 6).toNat, by omega, by omega, ?_⟩
  have : (z % 6).toNat < litC.length := by show _ < 6; omega
  unfold chrC
  rw [List.getElem?_eq_getElem this]; rfl
section
variable (I : Ids) (isOk isBk : List AV → Bool)
def RS (rs : List RuleV) (u : List Int) : List Int := (cutsV rs u).map fun (n : Nat) => (n : Int)
theorem text_loop {R : Rec} {v : AV} {L : List Int} (hv : (encI .u8).decS v = some L) (hl8 : ∀ x ∈ L, 0 ≤ x ∧ x ≤ 255) (hL : L.length ≤ 30) {b0 : Option Blk} {K85 : Cur [7]} :
    ∀ (m i fuel nx : Nat) (w : AV) (l : List (Option Blk)), i + m = L.length → m < fuel → RowAt .i32 (I.t 1) ((L.map chrC).take i) w l → l[0]? = some b0 → Off w 0 → l.length ≤ 1 + 3 * i →
      ∃ w' l' nx', RowAt .i32 (I.t 1) (L.map chrC) w' l' ∧ l'[0]? = some b0 ∧ Off w' 0 ∧ l'.length ≤ 1 + 3 * L.length ∧
        lp [7,8] fuel (B_LCutl8 I R v K85) w (.i .i64 (i : Nat)) [] (S l nx) = K85 w' [] (S l' nx') := by
  intro m
  induction m with
  | zero =>
    intro i fuel nx w l hi hf hrow h0 hoff hlen
    cases fuel with
    | zero => omega
    | succ f =>
      have hi : i = L.length := by omega
      subst hi
      rw [List.take_of_length_le (by simp)] at hrow
      refine ⟨w, l, nx, hrow, h0, hoff, hlen, ?_⟩
      have hd : decide ((L.length : Int) < (L.length : Int)) = false := by simp
      rw [lp_s]
      simp only [B_LCutl8, jn_d, (encI .u8).pLen_v hv, bLss_i, hd, eCond_b, cond_false]
  | succ m ih =>
    intro i fuel nx w l hi hf hrow h0 hoff hlen
    cases fuel with
    | zero => omega
    | succ f =>
      have hlt : i < L.length := by omega
      obtain ⟨z, hz⟩ : ∃ z, L[i]? = some z := ⟨_, List.getElem?_eq_getElem hlt⟩
      have hzm := hl8 z (List.mem_of_getElem? hz)
      have htk : (L.map chrC).take (i + 1) = (L.map chrC).take i ++ [chrC z] := by rw [List.take_add_one, List.getElem?_map, hz]; rfl
      have hln : ((L.map chrC).take i).length = i := by rw [List.length_take, List.length_map]; omega
      let lit : Option Blk := some (.cells nx false (I.t 1) 0 (litC.map (.i .i32)))
      have hpos : 0 < l.length := (List.getElem?_eq_some_iff.1 h0).1
      have hrow1 : RowAt .i32 (I.t 1) ((L.map chrC).take i) w (l ++ [lit]) := hrow.keep fun r hr => List.getElem?_append_left (hrow.lt r hr)
      obtain ⟨w1, l1, nx1, hr1, hg1, hs1, happ⟩ := row_appG (nx := nx + 1) hrow1 (by omega) (by simp; omega) (chrC z)
      obtain ⟨w', l', nx', q1, q2, q3, q4, q5⟩ := ih (i + 1) f nx1 w1 l1 (by omega) (by omega) (by rw [htk]; exact hr1) (by rw [hg1.2.2 0 (by simp) hoff, List.getElem?_append_left hpos]; exact h0) (hs1 0 (by simp) hoff) (by have := hg1.2.1; simp at this; omega)
      refine ⟨w', l', nx', q1, q2, q3, q4, ?_⟩
      have hd : decide ((i : Int) < (L.length : Int)) = true := by simp; omega
      have hw : IntKind.i64.wrap ((i : Nat) + 1 : Int) = ((i + 1 : Nat) : Int) := by rw [wrap64 (by omega) (by omega)]; omega
      have hm6 : z.tmod 6 = z % 6 := Int.tmod_eq_emod_of_nonneg hzm.1
      have h60 : ¬ ((6 : Int) = 0) := by decide
      obtain ⟨c, hc1, hc2, hc3⟩ := chrC_get hzm.1
      rw [lp_s, ← q5]
      generalize lp [7,8] f _ = K
      simp only [B_LCutl8, B_LCutj7, B_LCutj6, jn_d, (encI .u8).pLen_v hv, bLss_i, hd, eCond_b, cond_true]
      rw [pLit_S (by omega), lit6]
      rw [(encI .u8).iadr (kk := 1) hv rfl rfl hlt, (encI .u8).load_f (kk := 1) (o := 0) rfl hz (by decide)]
      simp only [encI, List.getElem?_cons_zero, kont_v, bRem_i, if_neg h60, hm6]
      rw [pIadrS_gr (m := c) (st' := nx) (T := I.t 1) (fz := 0) (cs := litC.map (.i .i32)) (by simp) rfl hc1 hc2, Nat.zero_add, pLoad_Sf (st' := nx) (T := I.t 1) (fz := 0) (cs := litC.map (.i .i32)) (by simp) rfl (by decide) (by simp only [List.length_map]; show (c + 1) * 1 ≤ 6; omega)]
      simp only [Nat.mul_one, Nat.add_zero, List.getElem?_map, hc3, Option.map_some, kont_v]
      rw [happ]
      simp only [bAdd_i, hw]
def restI (k : Int) (y : List Int) : List Int := (y.drop (if k = 0 then 0 else 1)).map (· + k)
theorem restI_take {k : Int} {y : List Int} {i : Nat} {x : Int} (hx : y[i]? = some x) : restI k (y.take (i + 1)) = restI k (y.take i) ++ (if 0 < i ∨ k = 0 then [x + k] else []) := by
  have e : y.take (i + 1) = y.take i ++ [x] := by rw [List.take_add_one, hx]; rfl
  have hl : (y.take i).length = i := by
    rw [List.length_take]
    have := (List.getElem?_eq_some_iff.1 hx).1
    omega
  unfold restI
  rw [e]
  by_cases h0 : k = 0
  · simp [h0]
  · by_cases hi : 0 < i
    · rw [if_neg h0, List.drop_append_of_le_length (by omega)]
      simp [hi]
    · have : i = 0 := by omega
      subst this
      simp [h0]
theorem join_loop {R : Rec} {xs ys : List Int} {k : Int} {v33 va : AV} {all : List Int} (hy : ∀ y ∈ ys, 0 ≤ y ∧ y ≤ 1000) (hk : 0 ≤ k ∧ k ≤ 1000) (hys : ys.length ≤ 1000) (hxs : xs.length ≤ 1000) {K51 : Cur [13]} :
    ∀ (m i fuel nx : Nat) (w : AV) (l : List (Option Blk)), i + m = ys.length → m < fuel → RowAt .i64 (I.t 10) (xs ++ restI k (ys.take i)) w l → RowAt .i64 (I.t 10) ys v33 l → RowAt .i64 (I.t 10) all va l →
      (∀ r, ¬ Off v33 r → Off w r) → (∀ r, ¬ Off va r → Off w r) → l.length ≤ 1000 + 2 * i →
      ∃ w' l' nx', RowAt .i64 (I.t 10) (xs ++ restI k ys) w' l' ∧ RowAt .i64 (I.t 10) all va l' ∧ l'.length ≤ 3000 ∧ lp [13,14] fuel (B_LCutl4 I R v33 (.i .i64 k) K51) w (.i .i64 (i : Nat)) [] (S l nx) = K51 w' [] (S l' nx') := by
  intro m
  induction m with
  | zero =>
    intro i fuel nx w l hi hf hrow h33 hva ho1 ho2 hlen
    cases fuel with
    | zero => omega
    | succ f =>
      have hi : i = ys.length := by omega
      subst hi
      rw [List.take_length] at hrow
      refine ⟨w, l, nx, hrow, hva, by omega, ?_⟩
      have hd : decide ((ys.length : Int) < (ys.length : Int)) = false := by simp
      rw [lp_s]
      simp only [B_LCutl4, jn_d, h33.len, bLss_i, hd, eCond_b, cond_false]
  | succ m ih =>
    intro i fuel nx w l hi hf hrow h33 hva ho1 ho2 hlen
    cases fuel with
    | zero => omega
    | succ f =>
      have hlt : i < ys.length := by omega
      obtain ⟨x, hx⟩ : ∃ x, ys[i]? = some x := ⟨_, List.getElem?_eq_getElem hlt⟩
      have hxm := hy x (List.mem_of_getElem? hx)
      have hd : decide ((i : Int) < (ys.length : Int)) = true := by simp; omega
      have hw : IntKind.i64.wrap ((i : Nat) + 1 : Int) = ((i + 1 : Nat) : Int) := by rw [wrap64 (by omega) (by omega)]; omega
      have hwx : IntKind.i64.wrap (x + k) = x + k := wrap64 (by omega) (by omega)
      have hrl : (restI k (ys.take i)).length ≤ i := by
        unfold restI
        simp [List.length_take]; omega
      have body : ∀ (K : Cur [13,14]), (∃ w1 l1 nx1, RowAt .i64 (I.t 10) (xs ++ restI k (ys.take (i + 1))) w1 l1 ∧ RowAt .i64 (I.t 10) ys v33 l1 ∧ RowAt .i64 (I.t 10) all va l1 ∧ (∀ r, ¬ Off v33 r → Off w1 r) ∧ (∀ r, ¬ Off va r → Off w1 r) ∧ l1.length ≤ 1000 + 2 * (i + 1) ∧
          B_LCutj3 I R (.i .i64 (i : Nat)) K v33 (.i .i64 k) w [] (S l nx) = K w1 (.i .i64 ((i + 1 : Nat) : Int)) [] (S l1 nx1)) := by
        intro K
        by_cases hc : 0 < i ∨ k = 0
        · obtain ⟨w1, l1, nx1, hr1, hg1, hs1, happ⟩ := row_appG (nx := nx) hrow (by simp; omega) (by omega) (x + k)
          refine ⟨w1, l1, nx1, by rw [restI_take hx, if_pos hc, ← List.append_assoc]; exact hr1, h33.keep fun r hr => hg1.2.2 r (h33.lt r hr) (ho1 r hr), hva.keep fun r hr => hg1.2.2 r (hva.lt r hr) (ho2 r hr), fun r hr => hs1 r (h33.lt r hr) (ho1 r hr), fun r hr => hs1 r (hva.lt r hr) (ho2 r hr), by have := hg1.2.1; omega, ?_⟩
          have fin : (pIadrS (S l nx) 1 v33 (.i .i64 (i : Nat)) fun v73 => pLoad (S l nx) false 1 v73 fun v74 => bAdd v74 (.i .i64 k) fun v75 => pLit (S l nx) (I.t 10) 1 1 [.i .i64 0] [(0, 1, v75)] fun v76 s77 => pAppend s77 (I.t 10) 1 w v76 fun v78 s79 => K v78 (.i .i64 (IntKind.i64.wrap ((i : Nat) + 1))) [] s79) = K w1 (.i .i64 ((i + 1 : Nat) : Int)) [] (S l1 nx1) := by
            rw [h33.at hx rfl]
            simp only [bAdd_i, hwx]
            rw [happ, hw]
          by_cases hi0 : 0 < i
          · have d0 : decide ((0 : Int) < (i : Nat)) = true := by simp; omega
            simp only [B_LCutj3, B_LCutj2, args0, args1, args2, args3, args4, jn_d, jv_d, jr_d, callK_ret, eCond_b, eGuard_b, pPick_b, pUn_not, eLeave_nil, bAdd_i, bSub_i, bMul_i, bQuo_i, bRem_i, bEql_i, bNeq_i, bLss_i, bLeq_i, bGtr_i, bGeq_i, bEql_s, bNeq_s, bLss_s, pInt_i, pLen_s, pLen_sl, pLen_gr, pLen_ns, pLen_sz, pBuild_d, fillK_nil, cond_true, cond_false, Bool.not_true, Bool.not_false, Bool.cond_self, List.length_nil, List.length_cons, List.nil_append, List.cons_append, List.append_nil, List.append_assoc, List.length_append, List.getElem?_cons_zero, List.getElem?_cons_succ, List.drop_succ_cons, List.drop_zero, List.drop_nil, List.take_succ_cons, List.take_zero, List.take_nil, List.set_cons_zero, List.set_cons_succ, Nat.zero_add, Nat.add_zero, Nat.zero_mul, Nat.mul_one, Nat.one_mul, Nat.reduceAdd, Nat.reduceMul, Nat.reduceSub, kont_v, AV.cells_i, AV.cells_s, AV.cells_b, AV.cells_agg, AV.cells_sl, d0]
            exact fin
          · have d0 : decide ((0 : Int) < (i : Nat)) = false := by simp; omega
            have dk : decide (k = 0) = true := by simp; omega
            simp only [B_LCutj3, B_LCutj2, args0, args1, args2, args3, args4, jn_d, jv_d, jr_d, callK_ret, eCond_b, eGuard_b, pPick_b, pUn_not, eLeave_nil, bAdd_i, bSub_i, bMul_i, bQuo_i, bRem_i, bEql_i, bNeq_i, bLss_i, bLeq_i, bGtr_i, bGeq_i, bEql_s, bNeq_s, bLss_s, pInt_i, pLen_s, pLen_sl, pLen_gr, pLen_ns, pLen_sz, pBuild_d, fillK_nil, cond_true, cond_false, Bool.not_true, Bool.not_false, Bool.cond_self, List.length_nil, List.length_cons, List.nil_append, List.cons_append, List.append_nil, List.append_assoc, List.length_append, List.getElem?_cons_zero, List.getElem?_cons_succ, List.drop_succ_cons, List.drop_zero, List.drop_nil, List.take_succ_cons, List.take_zero, List.take_nil, List.set_cons_zero, List.set_cons_succ, Nat.zero_add, Nat.add_zero, Nat.zero_mul, Nat.mul_one, Nat.one_mul, Nat.reduceAdd, Nat.reduceMul, Nat.reduceSub, kont_v, AV.cells_i, AV.cells_s, AV.cells_b, AV.cells_agg, AV.cells_sl, d0, dk]
            exact fin
        · have d0 : decide ((0 : Int) < (i : Nat)) = false := by simp; omega
          have dk : decide (k = 0) = false := by simp; omega
          refine ⟨w, l, nx, by rw [restI_take hx, if_neg hc, List.append_nil]; exact hrow, h33, hva, ho1, ho2, by omega, ?_⟩
          simp only [B_LCutj3, B_LCutj2, args0, args1, args2, args3, args4, jn_d, jv_d, jr_d, callK_ret, eCond_b, eGuard_b, pPick_b, pUn_not, eLeave_nil, bAdd_i, bSub_i, bMul_i, bQuo_i, bRem_i, bEql_i, bNeq_i, bLss_i, bLeq_i, bGtr_i, bGeq_i, bEql_s, bNeq_s, bLss_s, pInt_i, pLen_s, pLen_sl, pLen_gr, pLen_ns, pLen_sz, pBuild_d, fillK_nil, cond_true, cond_false, Bool.not_true, Bool.not_false, Bool.cond_self, List.length_nil, List.length_cons, List.nil_append, List.cons_append, List.append_nil, List.append_assoc, List.length_append, List.getElem?_cons_zero, List.getElem?_cons_succ, List.drop_succ_cons, List.drop_zero, List.drop_nil, List.take_succ_cons, List.take_zero, List.take_nil, List.set_cons_zero, List.set_cons_succ, Nat.zero_add, Nat.add_zero, Nat.zero_mul, Nat.mul_one, Nat.one_mul, Nat.reduceAdd, Nat.reduceMul, Nat.reduceSub, kont_v, AV.cells_i, AV.cells_s, AV.cells_b, AV.cells_agg, AV.cells_sl, d0, dk, hw]
      rw [lp_s]
      generalize hK : lp [13,14] f (B_LCutl4 I R v33 (.i .i64 k) K51) = K
      obtain ⟨w1, l1, nx1, b1, b2, b3, b4, b5, b6, b7⟩ := body K
      obtain ⟨w', l', nx', q1, q2, q3, q4⟩ := ih (i + 1) f nx1 w1 l1 (by omega) (by omega) b1 b2 b3 b4 b5 b6
      refine ⟨w', l', nx', q1, q2, q3, ?_⟩
      rw [hK] at q4
      rw [← q4, ← b7]
      simp only [B_LCutl4, jn_d, h33.len, bLss_i, hd, eCond_b, cond_true]
end
end Hb
end

section
set_option linter.unusedVariables false
set_option linter.unusedSimpArgs false
set_option linter.constructorNameAsVariable false
set_option autoImplicit false
set_option linter.unusedVariables false
set_option linter.unusedSimpArgs false
set_option linter.constructorNameAsVariable false
namespace Hb
open Go
section
variable (I : Ids) (isOk isBk : List AV → Bool)
theorem cuts_call {R : Rec} {rs : List RuleV} {rv sk w : AV} {u : List Int} {l : List (Option Blk)} {nx : Nat} (hr : encRule.decS rv = some rs) (hk : encS.decS sk = some []) (hbk : isBk [rv, sk] = true) (hok : rulesOk isOk rs = true) (hrl : rs.length < 1000)
    (hcuts : ∀ args s, R.f (I.f 29) args s = rowOv (CutsF I isOk isBk) R args s) (hu : u.length < 1000) (hl : l.length < 900000)
    (hin : inlN 4 (S l nx) w = some (.sl 1 u.length (u.map (.i .i32)))) :
    ∃ v1 l1 nx1, RowAt .i64 (I.t 10) (RS rs u) v1 l1 ∧ l.length ≤ l1.length ∧ l1.length ≤ l.length + 1 ∧ (∀ r, r < l.length → l1[r]? = l[r]?) ∧ (∀ r, r < l.length → Off v1 r) ∧
      ∀ K : KV, callK (R.f (I.f 29) [.agg [rv, sk], w] (S l nx)) K = K v1 (S l1 nx1) := by
  have hin2 : mapO (inlN 4 (S l nx)) [.agg [rv, sk], w] = some [.agg [rv, sk], .sl 1 u.length (u.map (.i .i32))] :=
    mapO_c (inlN_clo (by simp only [Clo, CloL, and_true]; exact ⟨encRule.clo_of hr, encS.clo_of hk⟩)) (mapO_c hin rfl)
  have hdec : encR32.decS (.sl 1 u.length (u.map (.i .i32))) = some u := by
    have := encR32.decS_sl u
    rw [Enc.sl] at this
    have e2 : encR32.encL u = u.map (.i .i32) := by
      simp only [Enc.encL]
      rw [← List.flatMap_singleton' (u.map (AV.i .i32))]
      simp [List.flatMap_map, encI]
    rw [e2] at this
    exact this
  have hF : CutsF I isOk isBk [.agg [rv, sk], .sl 1 u.length (u.map (.i .i32))] = some (I.t 10, (cutsV rs u).length, 1, (RS rs u).map (.i .i64)) := by
    simp only [CutsF, hr, hk, hdec]
    rw [if_pos ⟨hbk, hok, hrl, by omega⟩]
    rfl
  by_cases h0 : cutsV rs u = []
  · refine ⟨.ns, l, nx, .inl ⟨by simp [RS, h0], rfl⟩, by omega, by omega, fun _ _ => rfl, fun _ _ => Off.ns, fun K => ?_⟩
    rw [hcuts, rowOv_0 hin2 (by rw [hF, h0]; rfl)]
    exact callK_ret _ _ _
  · have hn : (cutsV rs u).length ≠ 0 := fun e => h0 (List.eq_nil_of_length_eq_zero e)
    refine ⟨_, _, nx + 1, .inr (.inr ⟨by simp [RS, h0], l.length, nx, rfl, List.getElem?_concat_length⟩), by simp, by simp, fun r hr => List.getElem?_append_left hr, fun r hr => Off.of (by omega), fun K => ?_⟩
    rw [hcuts, rowOv_S hin2 hF hn (by omega)]
    simp only [RS, List.length_map]
    exact callK_ret _ _ _
theorem LCut_c {R : Rec} {rs : List RuleV} {rv sk v : AV} (hknown : ∀ s, R.f (I.f 31) [] s = some (.ret (.b true) s)) (hbook : ∀ s, R.f (I.f 30) [.s [49,58,32,123,76,101,116,116,101,114,125,32,62,60,32,123,76,101,116,116,101,114,125,10,50,58,32,123,68,105,103,105,116,125,32,62,60,32,123,68,105,103,105,116,125,10,51,58,32,46,32,62,60,32,123,77,97,114,107,125,10,52,58,32,123,80,117,110,99,116,125,32,62,60,32,123,83,112,97,99,101,125,10]] s = some (.ret (.tup [.agg [rv, sk], .b true]) s))
    (hr : encRule.decS rv = some rs) (hk : encS.decS sk = some []) (hbk : isBk [rv, sk] = true) (hok : rulesOk isOk rs = true) (hrl : rs.length < 1000) (hav : avEq (.agg [rv, sk]) (.agg [rv, sk]) = true)
    (hcuts : ∀ args s, R.f (I.f 29) args s = rowOv (CutsF I isOk isBk) R args s) (hints : ∀ args s, R.f (I.f 32) args s = flatOv ints17F R args s)
    {L : List Int} (hv : (encI .u8).decS v = some L) (hl8 : ∀ x ∈ L, 0 ≤ x ∧ x ≤ 255) {at' : Int} (hat : 0 ≤ at' ∧ at' ≤ 255) :
    ∃ s', B_LCut I R [v, .i .u8 at'] (S [] 0) = some (.ret (.b true) s') := by
  unfold B_LCut
  simp only [args2, jn_d, hknown, callK_ret, pUn_not, Bool.not_true, eCond_b, cond_false]
  unfold B_LCutj10
  simp only [jn_d, (encI .u8).pLen_v hv, bGtr_i]
  by_cases h30 : 30 < L.length
  · have hd : decide ((30 : Int) < (L.length : Int)) = true := by simp; omega
    refine ⟨S [] 0, ?_⟩
    simp only [hd, args0, args1, args2, args3, args4, jn_d, jv_d, jr_d, callK_ret, eCond_b, eGuard_b, pPick_b, pUn_not, eLeave_nil, bAdd_i, bSub_i, bMul_i, bQuo_i, bRem_i, bEql_i, bNeq_i, bLss_i, bLeq_i, bGtr_i, bGeq_i, bEql_s, bNeq_s, bLss_s, pInt_i, pLen_s, pLen_sl, pLen_gr, pLen_ns, pLen_sz, pBuild_d, fillK_nil, cond_true, cond_false, Bool.not_true, Bool.not_false, Bool.cond_self, List.length_nil, List.length_cons, List.nil_append, List.cons_append, List.append_nil, List.append_assoc, List.length_append, List.getElem?_cons_zero, List.getElem?_cons_succ, List.drop_succ_cons, List.drop_zero, List.drop_nil, List.take_succ_cons, List.take_zero, List.take_nil, List.set_cons_zero, List.set_cons_succ, Nat.zero_add, Nat.add_zero, Nat.zero_mul, Nat.mul_one, Nat.one_mul, Nat.reduceAdd, Nat.reduceMul, Nat.reduceSub, kont_v, AV.cells_i, AV.cells_s, AV.cells_b, AV.cells_agg, AV.cells_sl]
  have hd : decide ((30 : Int) < (L.length : Int)) = false := by simp; omega
  by_cases h2 : L.length < 2
  · have hd2 : decide ((L.length : Int) < 2) = true := by simp; omega
    refine ⟨S [] 0, ?_⟩
    simp only [hd, args0, args1, args2, args3, args4, jn_d, jv_d, jr_d, callK_ret, eCond_b, eGuard_b, pPick_b, pUn_not, eLeave_nil, bAdd_i, bSub_i, bMul_i, bQuo_i, bRem_i, bEql_i, bNeq_i, bLss_i, bLeq_i, bGtr_i, bGeq_i, bEql_s, bNeq_s, bLss_s, pInt_i, pLen_s, pLen_sl, pLen_gr, pLen_ns, pLen_sz, pBuild_d, fillK_nil, cond_true, cond_false, Bool.not_true, Bool.not_false, Bool.cond_self, List.length_nil, List.length_cons, List.nil_append, List.cons_append, List.append_nil, List.append_assoc, List.length_append, List.getElem?_cons_zero, List.getElem?_cons_succ, List.drop_succ_cons, List.drop_zero, List.drop_nil, List.take_succ_cons, List.take_zero, List.take_nil, List.set_cons_zero, List.set_cons_succ, Nat.zero_add, Nat.add_zero, Nat.zero_mul, Nat.mul_one, Nat.one_mul, Nat.reduceAdd, Nat.reduceMul, Nat.reduceSub, kont_v, AV.cells_i, AV.cells_s, AV.cells_b, AV.cells_agg, AV.cells_sl, (encI .u8).pLen_v hv, hd2]
  have hd2 : decide ((L.length : Int) < 2) = false := by simp; omega
  simp only [hd, args0, args1, args2, args3, args4, jn_d, jv_d, jr_d, callK_ret, eCond_b, eGuard_b, pPick_b, pUn_not, eLeave_nil, bAdd_i, bSub_i, bMul_i, bQuo_i, bRem_i, bEql_i, bNeq_i, bLss_i, bLeq_i, bGtr_i, bGeq_i, bEql_s, bNeq_s, bLss_s, pInt_i, pLen_s, pLen_sl, pLen_gr, pLen_ns, pLen_sz, pBuild_d, fillK_nil, cond_true, cond_false, Bool.not_true, Bool.not_false, Bool.cond_self, List.length_nil, List.length_cons, List.nil_append, List.cons_append, List.append_nil, List.append_assoc, List.length_append, List.getElem?_cons_zero, List.getElem?_cons_succ, List.drop_succ_cons, List.drop_zero, List.drop_nil, List.take_succ_cons, List.take_zero, List.take_nil, List.set_cons_zero, List.set_cons_succ, Nat.zero_add, Nat.add_zero, Nat.zero_mul, Nat.mul_one, Nat.one_mul, Nat.reduceAdd, Nat.reduceMul, Nat.reduceSub, kont_v, AV.cells_i, AV.cells_s, AV.cells_b, AV.cells_agg, AV.cells_sl, (encI .u8).pLen_v hv, hd2]
  unfold B_LCutj9
  simp only [hbook, args0, args1, args2, args3, args4, jn_d, jv_d, jr_d, callK_ret, eCond_b, eGuard_b, pPick_b, pUn_not, eLeave_nil, bAdd_i, bSub_i, bMul_i, bQuo_i, bRem_i, bEql_i, bNeq_i, bLss_i, bLeq_i, bGtr_i, bGeq_i, bEql_s, bNeq_s, bLss_s, pInt_i, pLen_s, pLen_sl, pLen_gr, pLen_ns, pLen_sz, pBuild_d, fillK_nil, cond_true, cond_false, Bool.not_true, Bool.not_false, Bool.cond_self, List.length_nil, List.length_cons, List.nil_append, List.cons_append, List.append_nil, List.append_assoc, List.length_append, List.getElem?_cons_zero, List.getElem?_cons_succ, List.drop_succ_cons, List.drop_zero, List.drop_nil, List.take_succ_cons, List.take_zero, List.take_nil, List.set_cons_zero, List.set_cons_succ, Nat.zero_add, Nat.add_zero, Nat.zero_mul, Nat.mul_one, Nat.one_mul, Nat.reduceAdd, Nat.reduceMul, Nat.reduceSub, kont_v, AV.cells_i, AV.cells_s, AV.cells_b, AV.cells_agg, AV.cells_sl]
  rw [pExt_t rfl, pExt_t rfl, pRow_S (by simp)]
  simp only [args0, args1, args2, args3, args4, jn_d, jv_d, jr_d, callK_ret, eCond_b, eGuard_b, pPick_b, pUn_not, eLeave_nil, bAdd_i, bSub_i, bMul_i, bQuo_i, bRem_i, bEql_i, bNeq_i, bLss_i, bLeq_i, bGtr_i, bGeq_i, bEql_s, bNeq_s, bLss_s, pInt_i, pLen_s, pLen_sl, pLen_gr, pLen_ns, pLen_sz, pBuild_d, fillK_nil, cond_true, cond_false, Bool.not_true, Bool.not_false, Bool.cond_self, List.length_nil, List.length_cons, List.nil_append, List.cons_append, List.append_nil, List.append_assoc, List.length_append, List.getElem?_cons_zero, List.getElem?_cons_succ, List.drop_succ_cons, List.drop_zero, List.drop_nil, List.take_succ_cons, List.take_zero, List.take_nil, List.set_cons_zero, List.set_cons_succ, Nat.zero_add, Nat.add_zero, Nat.zero_mul, Nat.mul_one, Nat.one_mul, Nat.reduceAdd, Nat.reduceMul, Nat.reduceSub, kont_v, AV.cells_i, AV.cells_s, AV.cells_b, AV.cells_agg, AV.cells_sl]
  rw [pStore_S (n := 2) (kk := 2) (l := [some (.cells 0 false (I.t 8) 0 [.ns, .ns])]) (r := 0) (st' := 0) (T := I.t 8) (old := [.ns, .ns]) rfl rfl (AV.cells_agg _) rfl (by decide) (by simp) (by simp)]
  simp only [args0, args1, args2, args3, args4, jn_d, jv_d, jr_d, callK_ret, eCond_b, eGuard_b, pPick_b, pUn_not, eLeave_nil, bAdd_i, bSub_i, bMul_i, bQuo_i, bRem_i, bEql_i, bNeq_i, bLss_i, bLeq_i, bGtr_i, bGeq_i, bEql_s, bNeq_s, bLss_s, pInt_i, pLen_s, pLen_sl, pLen_gr, pLen_ns, pLen_sz, pBuild_d, fillK_nil, cond_true, cond_false, Bool.not_true, Bool.not_false, Bool.cond_self, List.length_nil, List.length_cons, List.nil_append, List.cons_append, List.append_nil, List.append_assoc, List.length_append, List.getElem?_cons_zero, List.getElem?_cons_succ, List.drop_succ_cons, List.drop_zero, List.drop_nil, List.take_succ_cons, List.take_zero, List.take_nil, List.set_cons_zero, List.set_cons_succ, Nat.zero_add, Nat.add_zero, Nat.zero_mul, Nat.mul_one, Nat.one_mul, Nat.reduceAdd, Nat.reduceMul, Nat.reduceSub, kont_v, AV.cells_i, AV.cells_s, AV.cells_b, AV.cells_agg, AV.cells_sl]
  let t : List Int := L.map chrC
  have htl : t.length = L.length := by simp [t]
  obtain ⟨w, l, nx, hrow, hb0, hoff, hlen, hrun⟩ := text_loop I (R := R) hv hl8 (by omega) (b0 := some (.cells 0 false (I.t 8) 0 [rv, sk])) (K85 := B_LCutj5 I R (.p 0 0 2 0 0) (.i .u8 at') (.b true)) L.length 0 30000 1 .ns [some (.cells 0 false (I.t 8) 0 [rv, sk])] (by omega) (by omega) (.inl ⟨by simp, rfl⟩) rfl Off.ns (by simp)
  have h1 : (lp [7,8] 30000 (B_LCutl8 I R v (B_LCutj5 I R (.p 0 0 2 0 0) (.i .u8 at') (.b true))) .ns (.i .i64 0) [] (S [some (.cells 0 false (I.t 8) 0 [rv, sk])] 1)) = B_LCutj5 I R (.p 0 0 2 0 0) (.i .u8 at') (.b true) w [] (S l nx) := hrun
  have hne : t ≠ [] := fun e => by rw [e] at htl; simp at htl; omega
  obtain ⟨r, st, rfl, hw2⟩ : ∃ r st, w = .gr r st 0 t.length 1 ∧ l[r]? = some (some (.cells st false (I.t 1) 0 (t.map (.i .i32)))) := by
    rcases hrow with ⟨e, _⟩ | ⟨e, _⟩ | ⟨_, r, st, e1, e2⟩
    · exact absurd e hne
    · exact absurd e hne
    · exact ⟨r, st, e1, e2⟩
  have hcl : CloL (t.map (AV.i .i32)) := by rw [CloL_iff]; intro x hx; obtain ⟨b, _, rfl⟩ := List.mem_map.1 hx; simp only [Clo]
  have hrlt := (List.getElem?_eq_some_iff.1 hw2).1
  -- all the cuts
  obtain ⟨va, la, na, ha, ga1, ga2, ga3, ga4, hca⟩ := cuts_call I isOk isBk (R := R) (w := .gr r st 0 t.length 1) (u := t) (l := l) (nx := nx) hr hk hbk hok hrl hcuts (by omega) (by omega)
    (by rw [inlN_gr hw2 rfl hcl (by simp), List.take_of_length_le (by simp)])
  have hcn : cutsV rs t ≠ [] := by rw [cutsV_eq hne]; simp
  have hcl0 : 0 < (cutsV rs t).length := List.length_pos_iff.2 hcn
  have hRl : (RS rs t).length = (cutsV rs t).length := by simp [RS]
  have hcb : (cutsV rs t).length ≤ t.length + 1 := by
    rw [cutsV_eq hne]
    have := List.length_filter_le (cutV rs t) (List.range' 1 (t.length - 1))
    simp at this ⊢
    omega
  let j : Nat := at'.toNat % (cutsV rs t).length
  have hj : j < (cutsV rs t).length := Nat.mod_lt _ hcl0
  obtain ⟨k, hkj⟩ : ∃ k, (cutsV rs t)[j]? = some k := ⟨_, List.getElem?_eq_getElem hj⟩
  obtain ⟨hpl, hkl⟩ := cut_plain hne (List.mem_of_getElem? hkj)
  have hRj : (RS rs t)[j]? = some (k : Int) := by simp [RS, hkj]
  have hwat : IntKind.i64.wrap at' = at' := wrap64 (by omega) (by omega)
  have hmod : at'.tmod ((RS rs t).length : Nat) = (j : Nat) := by
    rw [hRl, Int.tmod_eq_emod_of_nonneg hat.1]
    have : at' = (at'.toNat : Int) := by omega
    rw [this]; rfl
  have hn0 : ¬ (((RS rs t).length : Nat) : Int) = 0 := by rw [hRl]; omega
  have la0 : la[0]? = some (some (.cells 0 false (I.t 8) 0 [rv, sk])) := by rw [ga3 0 (by omega)]; exact hb0
  have lar : la[r]? = some (some (.cells st false (I.t 1) 0 (t.map (.i .i32)))) := by rw [ga3 r hrlt]; exact hw2
  -- those ahead
  obtain ⟨vx, lx, nx2, hx, gx1, gx2, gx3, gx4, hcx⟩ := cuts_call I isOk isBk (R := R) (w := .gr r st 0 k 1) (u := t.take k) (l := la) (nx := na) hr hk hbk hok hrl hcuts (by rw [List.length_take]; omega) (by omega)
    (by rw [inlN_gr lar rfl hcl (by simp; omega), Nat.mul_one, ← List.map_take, List.length_take, Nat.min_eq_left hkl])
  have lx0 : lx[0]? = some (some (.cells 0 false (I.t 8) 0 [rv, sk])) := by rw [gx3 0 (by omega)]; exact la0
  have lxr : lx[r]? = some (some (.cells st false (I.t 1) 0 (t.map (.i .i32)))) := by rw [gx3 r (by omega)]; exact lar
  -- those behind
  obtain ⟨vy, ly, ny, hy, gy1, gy2, gy3, gy4, hcy⟩ := cuts_call I isOk isBk (R := R) (w := .gr r st k (t.length - k) 1) (u := t.drop k) (l := lx) (nx := nx2) hr hk hbk hok hrl hcuts (by rw [List.length_drop]; omega) (by omega)
    (by
      have e : ((t.map (AV.i .i32)).drop (k * 1)).take ((t.length - k) * 1) = (t.drop k).map (.i .i32) := by
        rw [Nat.mul_one, Nat.mul_one, ← List.map_drop, ← List.map_take, List.take_of_length_le (by simp)]
      rw [inlN_grI lxr rfl hcl (by simp; omega), e, List.length_drop])
  have hay : RowAt .i64 (I.t 10) (RS rs t) va ly := (ha.keep fun q hq => gx3 q (ha.lt q hq)).keep fun q hq => gy3 q (by have := ha.lt q hq; omega)
  have hxy : RowAt .i64 (I.t 10) (RS rs (t.take k)) vx ly := hx.keep fun q hq => gy3 q (hx.lt q hq)
  have hlx : (cutsV rs (t.take k)).length ≤ 1000 ∧ (cutsV rs (t.drop k)).length ≤ 1000 := by
    have h0 : ∀ u : List Int, u.length ≤ 30 → (cutsV rs u).length ≤ 1000 := by
      intro u hu
      by_cases h : u = []
      · rw [h, cutsV_nil]; simp
      · rw [cutsV_eq h]
        have := List.length_filter_le (cutV rs u) (List.range' 1 (u.length - 1))
        simp at this ⊢
        omega
    exact ⟨h0 _ (by rw [List.length_take]; omega), h0 _ (by rw [List.length_drop]; omega)⟩
  obtain ⟨v0, bj, hv0, hv0o, hj0⟩ := join0 ny hxy (by simp [RS]; omega) (by omega)
  have hyb : ∀ y ∈ RS rs (t.drop k), 0 ≤ y ∧ y ≤ 1000 := by
    intro y hy
    obtain ⟨m, hm, rfl⟩ := List.mem_map.1 hy
    by_cases h : t.drop k = []
    · rw [h, cutsV_nil] at hm; simp at hm
    · rw [cutsV_eq h] at hm
      have hdl : (t.drop k).length ≤ 30 := by rw [List.length_drop]; omega
      simp only [List.mem_cons, List.mem_append, List.mem_filter, List.mem_range'_1, List.not_mem_nil, or_false] at hm
      omega
  obtain ⟨w', l', nx', hw', hva', hlen', hjoin⟩ := join_loop I (R := R) (xs := RS rs (t.take k)) (ys := RS rs (t.drop k)) (k := (k : Int)) (v33 := vy) (va := va) (all := RS rs t) hyb ⟨by omega, by omega⟩ (by simp [RS]; omega) (by simp [RS]; omega)
    (K51 := B_LCutj1 I R (.b true) va) (RS rs (t.drop k)).length 0 30000 (ny + 1) v0 (ly ++ [bj]) (by omega) (by simp [RS]; omega) (by simpa [restI] using hv0) (hy.keep fun q hq => List.getElem?_append_left (hy.lt q hq)) (hay.keep fun q hq => List.getElem?_append_left (hay.lt q hq))
    (fun q hq => hv0o q (hy.lt q hq)) (fun q hq => hv0o q (hay.lt q hq)) (by simp; omega)
  have hall : RS rs (t.take k) ++ restI (k : Int) (RS rs (t.drop k)) = RS rs t := by
    rw [show RS rs t = (cutsV rs (t.take k) ++ restV k (cutsV rs (t.drop k))).map (fun (n : Nat) => (n : Int)) from by rw [hpl]; rfl]
    simp only [RS, restI, restV, List.map_append, List.map_map, ← List.map_drop]
    congr 1
    have e : (if (k : Int) = 0 then 0 else 1 : Nat) = if k = 0 then 0 else 1 := by
      by_cases h : k = 0
      · subst h; rfl
      · rw [if_neg h, if_neg (by omega)]
    rw [e]
    apply List.map_congr_left
    intro a _
    simp
  rw [hall] at hw'
  refine ⟨S l' nx', h1.trans ?_⟩
  unfold B_LCutj5
  rw [pLoad_St (r := 0) (st' := 0) (cs := [rv, sk]) (T := I.t 8) (fz := 0) hb0 rfl (by decide) (by simp)]
  simp only [List.length_nil, List.length_cons, List.nil_append, List.cons_append, List.append_nil, List.append_assoc, List.length_append, List.getElem?_cons_zero, List.getElem?_cons_succ, List.drop_succ_cons, List.drop_zero, List.drop_nil, List.take_succ_cons, List.take_zero, List.take_nil, List.set_cons_zero, List.set_cons_succ, Nat.zero_add, Nat.add_zero, Nat.zero_mul, Nat.mul_one, Nat.one_mul, Nat.reduceAdd, Nat.reduceMul, Nat.reduceSub, kont_v, AV.cells_i, AV.cells_s, AV.cells_b, AV.cells_agg, AV.cells_sl]
  rw [hca]
  simp only [pInt_i, hwat, ha.len, bRem_i, if_neg hn0, hmod]
  rw [ha.at hRj rfl]
  rw [pLoad_St (r := 0) (st' := 0) (cs := [rv, sk]) (T := I.t 8) (fz := 0) la0 rfl (by decide) (by simp)]
  simp only [List.length_nil, List.length_cons, List.nil_append, List.cons_append, List.append_nil, List.append_assoc, List.length_append, List.getElem?_cons_zero, List.getElem?_cons_succ, List.drop_succ_cons, List.drop_zero, List.drop_nil, List.take_succ_cons, List.take_zero, List.take_nil, List.set_cons_zero, List.set_cons_succ, Nat.zero_add, Nat.add_zero, Nat.zero_mul, Nat.mul_one, Nat.one_mul, Nat.reduceAdd, Nat.reduceMul, Nat.reduceSub, kont_v, AV.cells_i, AV.cells_s, AV.cells_b, AV.cells_agg, AV.cells_sl]
  rw [pLsl_hi lar rfl hkl]
  rw [pLoad_St (r := 0) (st' := 0) (cs := [rv, sk]) (T := I.t 8) (fz := 0) la0 rfl (by decide) (by simp)]
  simp only [List.length_nil, List.length_cons, List.nil_append, List.cons_append, List.append_nil, List.append_assoc, List.length_append, List.getElem?_cons_zero, List.getElem?_cons_succ, List.drop_succ_cons, List.drop_zero, List.drop_nil, List.take_succ_cons, List.take_zero, List.take_nil, List.set_cons_zero, List.set_cons_succ, Nat.zero_add, Nat.add_zero, Nat.zero_mul, Nat.mul_one, Nat.one_mul, Nat.reduceAdd, Nat.reduceMul, Nat.reduceSub, kont_v, AV.cells_i, AV.cells_s, AV.cells_b, AV.cells_agg, AV.cells_sl]
  rw [pLsl_lo lar rfl hkl, hcx, pLsl_lo lxr rfl hkl, avEq_gr, cond_true]
  rw [pLoad_St (r := 0) (st' := 0) (cs := [rv, sk]) (T := I.t 8) (fz := 0) lx0 rfl (by decide) (by simp)]
  simp only [List.length_nil, List.length_cons, List.nil_append, List.cons_append, List.append_nil, List.append_assoc, List.length_append, List.getElem?_cons_zero, List.getElem?_cons_succ, List.drop_succ_cons, List.drop_zero, List.drop_nil, List.take_succ_cons, List.take_zero, List.take_nil, List.set_cons_zero, List.set_cons_succ, Nat.zero_add, Nat.add_zero, Nat.zero_mul, Nat.mul_one, Nat.one_mul, Nat.reduceAdd, Nat.reduceMul, Nat.reduceSub, kont_v, AV.cells_i, AV.cells_s, AV.cells_b, AV.cells_agg, AV.cells_sl]
  rw [hav, cond_true, hcy, hj0]
  simp only [jn_d]
  refine hjoin.trans ?_
  -- they are alike
  have hinj : ∀ {a : List Int} {x : AV} {q : List (Option Blk)} {n : Nat}, RowAt .i64 (I.t 10) a x q → ∃ y, inlN 4 (S q n) x = some y ∧ encI64.decS y = some a := by
    intro a x q n h
    have hcla : CloL (a.map (AV.i .i64)) := by rw [CloL_iff]; intro x hx; obtain ⟨b, _, rfl⟩ := List.mem_map.1 hx; simp only [Clo]
    rcases h with ⟨rfl, rfl⟩ | ⟨rfl, r, st, T', rfl, h2⟩ | ⟨hne, r, st, rfl, h2⟩
    · exact ⟨.ns, inlN_clo (by simp only [Clo]), rfl⟩
    · refine ⟨.sz, ?_, rfl⟩
      rw [inlN_s]
      show inl1 (inlN 3 (S q n)) (S q n) (.gr r st 0 0 1) = _
      unfold inl1
      simp only
      rw [S_at (st := st) h2 rfl]
    · refine ⟨.sl 1 a.length (a.map (.i .i64)), by rw [inlN_gr h2 rfl hcla (by simp), List.take_of_length_le (by simp)], ?_⟩
      have := encI64.decS_sl a
      rw [Enc.sl] at this
      have e2 : encI64.encL a = a.map (.i .i64) := by
        simp only [Enc.encL]
        rw [← List.flatMap_singleton' (a.map (AV.i .i64))]
        simp [List.flatMap_map, encI]
      rw [e2] at this
      exact this
  obtain ⟨y1, i1, d1⟩ := hinj (n := nx') hw'
  obtain ⟨y2, i2, d2⟩ := hinj (n := nx') hva'
  have hi : R.f (I.f 32) [w', va] (S l' nx') = some (.ret (.b true) (S l' nx')) := by
    rw [hints, flatOv_S (mapO_c i1 (mapO_c i2 rfl)) (v := .b true) (by simp only [ints17F, d1, d2]; rw [if_pos (by omega)]; simp)]
  simp only [B_LCutj1, args0, args1, args2, args3, args4, jn_d, jv_d, jr_d, callK_ret, eCond_b, eGuard_b, pPick_b, pUn_not, eLeave_nil, bAdd_i, bSub_i, bMul_i, bQuo_i, bRem_i, bEql_i, bNeq_i, bLss_i, bLeq_i, bGtr_i, bGeq_i, bEql_s, bNeq_s, bLss_s, pInt_i, pLen_s, pLen_sl, pLen_gr, pLen_ns, pLen_sz, pBuild_d, fillK_nil, cond_true, cond_false, Bool.not_true, Bool.not_false, Bool.cond_self, List.length_nil, List.length_cons, List.nil_append, List.cons_append, List.append_nil, List.append_assoc, List.length_append, List.getElem?_cons_zero, List.getElem?_cons_succ, List.drop_succ_cons, List.drop_zero, List.drop_nil, List.take_succ_cons, List.take_zero, List.take_nil, List.set_cons_zero, List.set_cons_succ, Nat.zero_add, Nat.add_zero, Nat.zero_mul, Nat.mul_one, Nat.one_mul, Nat.reduceAdd, Nat.reduceMul, Nat.reduceSub, kont_v, AV.cells_i, AV.cells_s, AV.cells_b, AV.cells_agg, AV.cells_sl, hi]
end
end Hb
end

section
set_option linter.unusedVariables false
set_option linter.unusedSimpArgs false
set_option linter.constructorNameAsVariable false
set_option autoImplicit false
set_option linter.unusedVariables false
namespace Hb
open Go
theorem kept_of_heap {w w' : World} (ho : w'.os = w.os) (hp : w'.output = w.output) (h : ∀ i, i < w.heap.size → w'.heap[i]? = w.heap[i]?) (may : MemPlace → Prop) : w.keptBut w' may := by
  refine ⟨ho, hp, fun i hi => ?_⟩
  rw [h i hi]
  exact (World.keptBut_refl w may).2.2 i hi
def GlobOk (P : Prg) (W : World) : Prop := ∀ g cs, P.glob g = some cs → g < W.heap.size ∧ RepAt ⟨W, [], fun _ => (0, 0), 0, fun b => b < W.heap.size⟩ g 0 cs
theorem GlobOk.none {P : Prg} {W : World} (h : P.glob = fun _ => none) : GlobOk P W := fun g cs hc => by rw [h] at hc; cases hc
theorem ACall.calls {P : Prg} {W : World} (hg : GlobOk P W) {g : FuncId} {args : List AV} {vs : List Value} {x : Bool} (h : ACall P g args ([], 0) fun v' _ => v' = .b x) (hv : ∀ c, RepL c args vs) :
    Calls P.toProgram g vs.toArray W fun e w' => e = .returned (.bool x) ∧ ∀ may, W.keptBut w' may := by
  let c : Cx := ⟨W, [], fun _ => (0, 0), 0, fun b => b < W.heap.size⟩
  have hs : Sim P c := ⟨fun r b hb => (by simp [c] at hb), fun r r' b b' hb => (by simp [c] at hb), fun r b hb => (by simp [c] at hb), fun _ h => h, hg⟩
  refine (callsIn_wide.1 (h.2 c vs rfl hs (hv c))).mono fun e w' ⟨c', v, av, e1, e2, e3, e4, e5, e6⟩ => ?_
  subst e6
  subst e2
  have : v = .bool x := e5
  subst this
  refine ⟨e1, fun may => kept_of_heap e4.os e4.output (fun i hi => e4.keep i hi ?_) may⟩
  rintro ⟨r, blk, hb, _⟩
  simp [c] at hb
theorem rep_ints {c : Cx} {b : Nat} {k : IntKind} : ∀ {l : List Int} {off : Nat}, (∀ r, (h : r < l.length) → c.w.cell? ⟨b, off + r, none⟩ = some (.int k l[r])) → RepAt c b off (l.map (AV.i k))
  | [], off, h => by simp only [List.map_nil, RepAt]
  | a :: l, off, h => by
    simp only [List.map_cons, RepAt]
    refine ⟨⟨.int k a, h 0 (by simp), rfl, by simp only [RepV]⟩, rep_ints fun r hr => ?_⟩
    have := h (r + 1) (by simpa using hr)
    rw [show off + 1 + r = off + (r + 1) from by omega]
    exact this
theorem laid_ints {P : Program} {w : World} {g n : Nat} {name : String} {t e : TypeId} {k : IntKind} {l : List Int} {cs : Array Value} {fuel : Nat} {p : List MemPlace}
    (hg : P.globalNamed name = some g) (ht : P.underlying t = some (.array n e)) (he : P.underlying e = some (.int k)) (hc : P.cellsOf e = 1) (hn : l.length = n)
    (hv : w.var? P name = some cs) (hd : DataW.trod (H := Unit) (fun _ => ()) P w 0 (fun _ => true) false fuel t cs.toList = some (.agg (l.map fun z => .lit (.int k z)), p)) :
    ∀ r, (h : r < l.length) → w.cell? ⟨g, r, none⟩ = some (.int k l[r]) := by
  intro r hr
  obtain ⟨xs, m, _, ex, _, hl, hel⟩ := DataW.trod_array ht hd
  have hE := hel r (by omega)
  rw [hc, Nat.mul_one, List.getElem?_eq_getElem (by omega)] at hE
  obtain ⟨z, e1, e2, _⟩ := DataW.trod_int he hE
  have e3 : (xs.map (·.1)) = l.map fun z => .lit (.int k z) := (DataW.agg.inj (Prod.mk.inj ex).1).symm
  have e4 : (xs.map (·.1))[r]? = (l.map fun z => (DataW.lit (.int k z) : DataW Unit))[r]? := by rw [e3]
  rw [List.getElem?_map, List.getElem?_map, List.getElem?_eq_getElem (by omega : r < xs.length), List.getElem?_eq_getElem hr, e2] at e4
  have hz : z = l[r] := by
    simp only [Option.map_some, Option.some.injEq, DataW.lit.injEq, Lit.int.injEq, true_and] at e4
    exact e4
  rw [World.var?_cell hg hv r, ← hz]
  have : cs.toList[r]? = some (.int k z) := by
    have h0 : ((cs.toList.drop r).take 1)[0]? = some (.int k z) := by rw [e1]; rfl
    simpa using h0
  simpa using this
theorem laid_get {P : Program} {w : World} : ∀ {laid : List (String × DataW Unit)} {ps : List MemPlace} {i : Nat} {n : String} {d : DataW Unit}, DataW.LaidVars P w laid ps → laid[i]? = some (n, d) →
    ∃ g t cs fuel p, P.globalNamed n = some g ∧ (P.globals[g]?).map (·.type) = some t ∧ w.var? P n = some cs ∧ DataW.trod (H := Unit) (fun _ => ()) P w 0 (fun _ => true) false fuel t cs.toList = some (d, p)
  | [], ps, i, n, d, h, hi => by simp at hi
  | (n0, d0) :: laid, ps, 0, n, d, h, hi => by
    simp only [List.getElem?_cons_zero, Option.some.injEq, Prod.mk.injEq] at hi
    obtain ⟨rfl, rfl⟩ := hi
    obtain ⟨g, t, cs, fuel, p, q, h1, h2, h3, h4, _⟩ := h
    exact ⟨g, t, cs, fuel, p, h1, h2, h3, h4⟩
  | (n0, d0) :: laid, ps, i + 1, n, d, h, hi => by
    obtain ⟨g, t, cs, fuel, p, q, h1, h2, h3, h4, h5, _⟩ := h
    exact laid_get h5 (by simpa using hi)
theorem laid_int {P : Program} {w : World} {g : Nat} {name : String} {t : TypeId} {k : IntKind} {z : Int} {cs : Array Value} {fuel : Nat} {p : List MemPlace}
    (hg : P.globalNamed name = some g) (ht : P.underlying t = some (.int k)) (hv : w.var? P name = some cs) (hd : DataW.trod (H := Unit) (fun _ => ()) P w 0 (fun _ => true) false fuel t cs.toList = some (.lit (.int k z), p)) :
    w.cell? ⟨g, 0, none⟩ = some (.int k z) := by
  obtain ⟨n, e1, e2, _⟩ := DataW.trod_int ht hd
  have : n = z := by
    have := (Prod.mk.inj e2).1
    simp only [DataW.lit.injEq, Lit.int.injEq, true_and] at this
    exact this.symm
  subst this
  rw [World.var?_cell hg hv 0]
  have : cs.toList[0]? = some (.int k n) := by rw [e1]; rfl
  simpa using this
end Hb
end

section
set_option linter.unusedVariables false
set_option linter.unusedSimpArgs false
set_option linter.constructorNameAsVariable false
set_option autoImplicit false
set_option linter.unusedVariables false
set_option linter.unusedSimpArgs false
set_option linter.constructorNameAsVariable false
namespace Hb
open Go
noncomputable def findC (L : List (List AV × AV)) (as : List AV) : Option AV :=
  List.rec (motive := fun _ => Option AV) none (fun e _ ih => cond (avEq (.tup e.1) (.tup as)) (some e.2) ih) L
theorem findC_mem {as : List AV} {v : AV} : ∀ {L : List (List AV × AV)}, findC L as = some v → (as, v) ∈ L
  | [], h => by cases h
  | (x, y) :: L, h => by
    have h : cond (avEq (.tup x) (.tup as)) (some y) (findC L as) = some v := h
    cases hc : avEq (.tup x) (.tup as) with
    | true =>
      rw [hc] at h
      cases h
      have := avEq_eq hc
      cases this
      exact List.mem_cons_self
    | false => rw [hc] at h; exact List.mem_cons_of_mem _ (findC_mem h)
noncomputable def evalC (b : Fun) (R : Rec) (as : List AV) : Option AV :=
  match b R as ⟨.e, 0, 0⟩ with
  | some a => colA (fun v s => inlN 60 s v) a
  | none => none
noncomputable def chkC (b : Fun) (R : Rec) (L : List (List AV × AV)) : Bool :=
  List.rec (motive := fun _ => Bool) true (fun e _ ih => cond (match evalC b R e.1 with | some v => avEq v e.2 | none => false) ih false) L
theorem chkC_mem {b : Fun} {R : Rec} {as : List AV} {v : AV} : ∀ {L : List (List AV × AV)}, chkC b R L = true → (as, v) ∈ L → evalC b R as = some v
  | [], _, h => by cases h
  | e :: L, hc, h => by
    have hc : cond (match evalC b R e.1 with | some v => avEq v e.2 | none => false) (chkC b R L) false = true := hc
    cases he : (match evalC b R e.1 with | some v => avEq v e.2 | none => false) with
    | false => rw [he] at hc; cases hc
    | true =>
      rw [he] at hc
      rcases List.mem_cons.1 h with rfl | h
      · split at he
        · rename_i v' hv
          rw [hv]
          exact congrArg some (avEq_eq he)
        · cases he
      · exact chkC_mem hc h
theorem colA_all {f : AV → ES → Option AV} {key : AV} : ∀ {a : Ans}, colA f a = some key → AllRet (fun v s => f v s = some key) a
  | .ret v0 s0, h => h
  | .ex _ _ _, h => by cases h
  | .two x y, h => by
    have h : (match colA f x, colA f y with
      | some x, some y => cond (avEq x y) (some x) none
      | _, _ => none) = some key := h
    cases hx : colA f x with
    | none => rw [hx] at h; cases h
    | some kx =>
      cases hy : colA f y with
      | none => rw [hx, hy] at h; cases h
      | some ky =>
        rw [hx, hy] at h
        simp only at h
        cases he : avEq kx ky with
        | false => rw [he] at h; cases h
        | true =>
          rw [he] at h
          cases h
          have e := avEq_eq he
          subst e
          exact ⟨colA_all hx, colA_all hy⟩
theorem AllRet.mono' {Φ Ψ : AV → ES → Prop} (h : ∀ v s, Φ v s → Ψ v s) : ∀ {a : Ans}, AllRet Φ a → AllRet Ψ a
  | .ret _ _, q => h _ _ q
  | .ex _ _ _, q => q
  | .two _ _, q => ⟨AllRet.mono' h q.1, AllRet.mono' h q.2⟩
noncomputable def constOv (L : List (List AV × AV)) : Fun := cloOv (findC L)
theorem constOv_ok {P : Prg} (hG : GlobClo P) {g : FuncId} {b : Fun} {R : Rec} {L : List (List AV × AV)} (hb : SOk P g b) (hR : RecOk P R) (h : chkC b R L = true) : SOk P g (constOv L) :=
  cloOv_ok hG hb hR fun as v hf _ => by
    have he := chkC_mem h (findC_mem hf)
    unfold evalC at he
    split at he
    case h_2 => cases he
    rename_i a ha
    exact ⟨a, ha, AllRet.mono' (fun v0 s0 h0 => ⟨v, inlN_inl 60 h0, rfl⟩) (colA_all he)⟩
theorem constOv_c {L : List (List AV × AV)} {R : Rec} {args : List AV} {v : AV} {s : ES} (h : cond (cloBL args) (match findC L args with | some w => avEq w v | none => false) false = true) : constOv L R args s = some (.ret v s) := by
  cases h1 : cloBL args with
  | false => rw [h1] at h; cases h
  | true =>
    rw [h1] at h
    have h2 : (match findC L args with | some w => avEq w v | none => false) = true := h
    split at h2
    · rename_i w hw
      exact cloOv_c ((cloBL_iff _).1 h1) (by rw [hw]; exact congrArg some (avEq_eq h2))
    · cases h2
noncomputable def isC (L : List (List AV × AV)) (e : List AV) : Bool := cond (cloBL [.agg e]) (match findC L [.agg e] with | some w => avEq w (.b true) | none => false) false
theorem isC_c {L : List (List AV × AV)} {R : Rec} {e : List AV} (h : isC L e = true) (s : ES) : constOv L R [.agg e] s = some (.ret (.b true) s) := constOv_c h
theorem ACall.callsW {P : Prg} {W : World} (hg : GlobOk P W) {g : FuncId} {args : List AV} {vs : List Value} {x : Bool} (h : ACall P g args ([], 0) fun v' _ => v' = .b x)
    (hv : RepL ⟨W, [], fun _ => (0, 0), 0, fun b => b < W.heap.size⟩ args vs) : Calls P.toProgram g vs.toArray W fun e w' => e = .returned (.bool x) ∧ ∀ may, W.keptBut w' may := by
  let c : Cx := ⟨W, [], fun _ => (0, 0), 0, fun b => b < W.heap.size⟩
  have hs : Sim P c := ⟨fun r b hb => (by simp [c] at hb), fun r r' b b' hb => (by simp [c] at hb), fun r b hb => (by simp [c] at hb), fun _ h => h, hg⟩
  refine (callsIn_wide.1 (h.2 c vs rfl hs hv)).mono fun e w' ⟨c', v, av, e1, e2, e3, e4, e5, e6⟩ => ?_
  subst e6
  subst e2
  have : v = .bool x := e5
  subst this
  refine ⟨e1, fun may => kept_of_heap e4.os e4.output (fun i hi => e4.keep i hi ?_) may⟩
  rintro ⟨r, blk, hb, _⟩
  simp [c] at hb
end Hb
end
