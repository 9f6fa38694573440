/- A layer for programs of small data: values, stores, code, and an evaluator of code that the kernel runs; part 15. -/
import Derived.Test.YtkmpehlhplhnhaaGreatDoorH14

section
set_option linter.unusedVariables false
set_option linter.unusedSimpArgs false
set_option linter.constructorNameAsVariable false
set_option autoImplicit false
set_option linter.unusedVariables false
set_option linter.unusedSimpArgs false
set_option linter.constructorNameAsVariable false
namespace Hb
open Go
def outsV (rs : List RuleV) (l : List Int) : List Int := (cutsV rs ((stepsV l).map (·.1))).map fun (c : Nat) => atV ((stepsV l).map (·.2)) l.length c
section
variable (I : Ids) (isOk isBk : List AV → Bool)
def bytesF : List AV → Option AV
  | [.agg [rv, sk], v] => match encRule.decS rv, encS.decS sk, (encI .u8).decS v with
    | some rs, some [], some l => if isBk [rv, sk] = true ∧ rulesOk isOk rs = true ∧ rs.length < 1000 ∧ bytesP l = true ∧ l.length < 20000 then some (rowC .i64 (outsV rs l)) else none
    | _, _, _ => none
  | _ => none
theorem cutsV_len (rs : List RuleV) (t : List Int) : (cutsV rs t).length ≤ t.length + 1 := by
  by_cases h : t = []
  · rw [h, cutsV_nil]; simp
  · rw [cutsV_eq h]
    have := List.length_filter_le (cutV rs t) (List.range' 1 (t.length - 1))
    have hp : 0 < t.length := List.length_pos_iff.2 h
    simp at this ⊢
    omega
theorem mid_set {a b : List Int} {i : Nat} {x y : Int} (hl : a.length = b.length) (hx : a[i]? = some x) (hy : b[i]? = some y) : (b.take i ++ a.drop i).set i y = b.take (i + 1) ++ a.drop (i + 1) := by
  have ha := (List.getElem?_eq_some_iff.1 hx).1
  apply List.ext_getElem?
  intro j
  rw [List.getElem?_set]
  by_cases hj : i = j
  · subst hj
    rw [if_pos rfl, if_pos (by simp; omega), List.getElem?_append_left (by simp; omega), List.getElem?_take, if_pos (by omega), hy]
  · rw [if_neg hj]
    by_cases hlt : j < i
    · rw [List.getElem?_append_left (by simp; omega), List.getElem?_append_left (by simp; omega), List.getElem?_take, List.getElem?_take, if_pos hlt, if_pos (by omega)]
    · rw [List.getElem?_append_right (by simp; omega), List.getElem?_append_right (by simp; omega), List.getElem?_drop, List.getElem?_drop]
      congr 1
      simp
      omega
theorem mid_get {a b : List Int} {i : Nat} {x : Int} (hl : a.length = b.length) (hx : a[i]? = some x) : (b.take i ++ a.drop i)[i]? = some x := by
  have ha := (List.getElem?_eq_some_iff.1 hx).1
  rw [List.getElem?_append_right (by simp; omega), List.getElem?_drop]
  rw [← hx]; congr 1
  simp; omega
theorem bytes_loop {R : Rec} {b0 : Option Blk} {cs at' : List Int} {L : List Int} {v v9 : AV} {st : Nat} (hv : (encI .u8).decS v = some L) (h9 : encI64.decS v9 = some at') (hat : at'.length < 100000) (hn : cs.length < 25000) (hcl9 : Clo v9)
    (hA : ∀ args s, R.f (I.f 37) args s = flatOv atF R args s) {K16 : Cur []} :
    ∀ (m i fuel : Nat), i + m = cs.length → m < fuel →
      lp [20] fuel (B_Bytes17l4 I R (.i .i64 (cs.length : Nat)) (.gr 1 st 0 cs.length 1) v v9 K16) (.i .i64 (i : Nat)) [] (S [b0, some (.cells st false (I.t 10) 0 (((cs.map (atV at' L.length)).take i ++ cs.drop i).map (.i .i64)))] 2) =
        K16 [] (S [b0, some (.cells st false (I.t 10) 0 ((cs.map (atV at' L.length)).map (.i .i64)))] 2) := by
  intro m
  induction m with
  | zero =>
    intro i fuel hi hf
    cases fuel with
    | zero => omega
    | succ f =>
      have hd : decide ((i : Int) < (cs.length : Int)) = false := decide_eq_false (by omega)
      rw [lp_s, List.take_of_length_le (by simp; omega), List.drop_of_length_le (by omega), List.append_nil]
      generalize lp [20] f _ = K
      unfold B_Bytes17l4
      simp only [jn_d, bLss_i, hd]
      generalize B_Bytes17j3 I R _ _ _ _ _ [] _ = X
      rw [eCond_b, cond_false]
  | succ m ih =>
    intro i fuel hi hf
    cases fuel with
    | zero => omega
    | succ f =>
      have hlt : i < cs.length := by omega
      obtain ⟨x, hx⟩ : ∃ x, cs[i]? = some x := ⟨_, List.getElem?_eq_getElem hlt⟩
      have hy : (cs.map (atV at' L.length))[i]? = some (atV at' L.length x) := by rw [List.getElem?_map, hx]; rfl
      have hd : decide ((i : Int) < (cs.length : Int)) = true := decide_eq_true (by omega)
      have hw : IntKind.i64.wrap ((i : Nat) + 1 : Int) = ((i + 1 : Nat) : Int) := by rw [wrap64 (by omega) (by omega)]; omega
      have hmid := mid_set (a := cs) (b := cs.map (atV at' L.length)) (by simp) hx hy
      have hget := mid_get (a := cs) (b := cs.map (atV at' L.length)) (by simp) hx
      have hmlen : ((cs.map (atV at' L.length)).take i ++ cs.drop i).length = cs.length := by simp; omega
      rw [lp_s, ← ih (i + 1) f (by omega) (by omega), ← hmid]
      generalize (cs.map (atV at' L.length)).take i ++ cs.drop i = q at hget hmlen ⊢
      generalize lp [20] f _ = K
      unfold B_Bytes17l4
      simp only [jn_d, bLss_i, hd]
      generalize K16 [] _ = X
      rw [eCond_b, cond_true]
      unfold B_Bytes17j3
      have hca : ∀ s, R.f (I.f 37) [v9, .i .i64 (L.length : Nat), .i .i64 x] s = some (.ret (.i .i64 (atV at' L.length x)) s) := fun s => by
        rw [hA, flatOv_c (v := .i .i64 (atV at' L.length x)) (by simp only [CloL, Clo, and_true]; exact hcl9) (by simp only [atF, h9]; rw [if_pos hat])]
      simp only [jn_d]
      rw [pIadrS_gr (m := i) (st' := st) (T := I.t 10) (fz := 0) (cs := q.map (.i .i64)) rfl rfl rfl hlt, Nat.zero_add, pLoad_Sf (st' := st) (T := I.t 10) (fz := 0) (cs := q.map (.i .i64)) rfl rfl (by decide) (by simp; omega)]
      simp only [Nat.mul_one, Nat.add_zero, List.getElem?_map, hget, Option.map_some, kont_v, (encI .u8).pLen_v hv, hca, callK_ret]
      rw [pIadrS_gr (m := i) (st' := st) (T := I.t 10) (fz := 0) (cs := q.map (.i .i64)) rfl rfl rfl hlt, Nat.zero_add]
      rw [pStore_S (n := 1) (kk := 1) (r := 1) (st' := st) (T := I.t 10) (old := q.map (.i .i64)) (cs := [.i .i64 (atV at' L.length x)]) rfl rfl (AV.cells_i _ _) rfl (by decide) (by simp; omega) (by simp)]
      unfold B_Bytes17j2
      simp only [bAdd_i, hw]
      have e : (q.map (AV.i .i64)).take (i * 1 + 0) ++ ([AV.i .i64 (atV at' L.length x)] ++ (q.map (AV.i .i64)).drop (i * 1 + 0 + [AV.i .i64 (atV at' L.length x)].length)) = (q.set i (atV at' L.length x)).map (.i .i64) := by
        rw [List.set_eq_take_append_cons_drop, if_pos (by omega)]
        simp [List.map_take, List.map_drop]
      rw [e]
      rfl
theorem bytes_c {R : Rec} (hrun : ∀ args s, R.f (I.f 20) args s = cloOv runesF R args s) (hcuts : ∀ args s, R.f (I.f 29) args s = rowOv (CutsF I isOk isBk) R args s) (hA : ∀ args s, R.f (I.f 37) args s = flatOv atF R args s)
    (as : List AV) (w : AV) (h : bytesF isOk isBk as = some w) (hcl : CloL as) : Tot (fun v0 s0 => ∃ v', Inl Clo s0.st.1 v0 v' ∧ v' = w) (B_Bytes17 I R as (S [] 0)) := by
  unfold bytesF at h
  split at h
  case h_2 => cases h
  rename_i rv sk v
  split at h
  case h_2 => cases h
  rename_i rs L hr hk hv
  split at h
  case isFalse => cases h
  rename_i hc
  obtain ⟨hbk, hok, hrl, hb, hL⟩ := hc
  cases h
  let t : List Int := (stepsV L).map (·.1)
  let at' : List Int := (stepsV L).map (·.2)
  have hst : (stepsV L).length ≤ L.length := decAll_len _ _ _
  have htl : t.length ≤ L.length := by simpa [t] using hst
  have hclb : CloL [rv, sk] := by simp only [CloL, and_true]; exact ⟨encRule.clo_of hr, encS.clo_of hk⟩
  have hclv : Clo v := (encI .u8).clo_of hv
  have hct : Clo (rowC .i32 t) := (encI .i32).clo_of (rowC_dec .i32 t)
  have hca : Clo (rowC .i64 at') := (encI .i64).clo_of (rowC_dec .i64 at')
  have c1 : ∀ s, R.f (I.f 20) [v] s = some (.ret (.tup [rowC .i32 t, rowC .i64 at']) s) := fun s => by
    rw [hrun, cloOv_c (v := .tup [rowC .i32 t, rowC .i64 at']) (by simp only [CloL, and_true]; exact hclv) (by simp only [runesF, hv]; rw [if_pos ⟨hb, hL⟩])]
  have hF : CutsF I isOk isBk [.agg [rv, sk], rowC .i32 t] = some (I.t 10, (cutsV rs t).length, 1, (RS rs t).map (.i .i64)) := by
    have hd : encR32.decS (rowC .i32 t) = some t := rowC_dec .i32 t
    simp only [CutsF, hr, hk, hd]
    rw [if_pos ⟨hbk, hok, hrl, by omega⟩]
    rfl
  have hclc : CloL [.agg [rv, sk], rowC .i32 t] := by simp only [CloL, Clo, and_true]; exact ⟨by simpa only [CloL, and_true] using hclb, hct⟩
  have hin : mapO (inlN 4 (S [some (.cells 0 false (I.t 8) 0 [rv, sk])] 1)) [.agg [rv, sk], rowC .i32 t] = some [.agg [rv, sk], rowC .i32 t] := mapO_clo hclc
  have houts : outsV rs L = (RS rs t).map (atV at' L.length) := by
    simp only [outsV, RS, List.map_map]
    rfl
  have hcl3 := cutsV_len rs t
  have e9 : encI64.decS (rowC .i64 at') = some at' := rowC_dec .i64 at'
  unfold B_Bytes17
  rw [args2, pBox_S (AV.cells_agg _) (by simp)]
  simp only [List.length_nil, List.length_cons, List.nil_append, Nat.zero_add, Nat.reduceAdd, c1, callK_ret]
  rw [pExt_t rfl, pExt_t rfl, pLoad_St (r := 0) (st' := 0) (cs := [rv, sk]) (T := I.t 8) (fz := 0) rfl rfl (by decide) (by simp)]
  simp only [List.drop_zero, List.take_succ_cons, List.take_nil, Nat.add_zero, Nat.zero_mul]
  rw [hcuts]
  by_cases h0 : cutsV rs t = []
  · have hn : outsV rs L = [] := by rw [houts]; simp [RS, h0]
    rw [rowOv_0 hin (by rw [hF, h0]; rfl), hn]
    simp only [callK_ret, jn_d, pLen_ns]
    rw [show (30000 : Nat) = 29999 + 1 from rfl, lp_s]
    generalize lp [20] 29999 _ = K
    unfold B_Bytes17l4
    have hd : decide ((0 : Int) < 0) = false := by decide
    simp only [jn_d, bLss_i]
    generalize B_Bytes17j3 I R _ _ _ _ _ [] _ = X
    rw [eCond_b, hd, cond_false]
    unfold B_Bytes17j1
    simp only [eLeave_nil]
    exact Tot.ret ⟨_, .clo _ (by simp only [Clo]), rfl⟩
  · have hn : (cutsV rs t).length ≠ 0 := fun e => h0 (List.eq_nil_of_length_eq_zero e)
    have hlen : (RS rs t).length = (cutsV rs t).length := by simp [RS]
    rw [rowOv_S hin hF hn (by simp)]
    simp only [callK_ret, jn_d, pLen_gr, List.length_nil, List.length_cons, List.nil_append, List.cons_append, Nat.zero_add, Nat.reduceAdd]
    have hl := bytes_loop I (R := R) (b0 := some (.cells 0 false (I.t 8) 0 [rv, sk])) (cs := RS rs t) (at' := at') (st := 1) hv e9 (by simp [at']; omega) (by omega) hca hA (K16 := B_Bytes17j1 I R (.gr 1 1 0 (cutsV rs t).length 1)) (RS rs t).length 0 30000 (by omega) (by omega)
    rw [hlen] at hl
    have hmain : (lp [20] 30000 (B_Bytes17l4 I R (.i .i64 ((cutsV rs t).length : Nat)) (.gr 1 1 0 (cutsV rs t).length 1) v (rowC .i64 at') (B_Bytes17j1 I R (.gr 1 1 0 (cutsV rs t).length 1))) (.i .i64 0) [] (S [some (.cells 0 false (I.t 8) 0 [rv, sk]), some (.cells 1 false (I.t 10) 0 ((RS rs t).map (.i .i64)))] 2)) =
        some (.ret (.gr 1 1 0 (cutsV rs t).length 1) (S [some (.cells 0 false (I.t 8) 0 [rv, sk]), some (.cells 1 false (I.t 10) 0 ((outsV rs L).map (.i .i64)))] 2)) := by
      rw [houts]
      refine Eq.trans hl ?_
      unfold B_Bytes17j1
      simp only [eLeave_nil]
    rw [hmain]
    have hne : outsV rs L ≠ [] := by rw [houts]; intro e; have := congrArg List.length e; simp only [List.length_map, List.length_nil] at this; omega
    have ho : (outsV rs L).length = (cutsV rs t).length := by rw [houts]; simp [RS]
    have hrow : RowAt .i64 (I.t 10) (outsV rs L) (.gr 1 1 0 (cutsV rs t).length 1) [some (.cells 0 false (I.t 8) 0 [rv, sk]), some (.cells 1 false (I.t 10) 0 ((outsV rs L).map (.i .i64)))] := Or.inr (Or.inr ⟨hne, 1, 1, by rw [ho], rfl⟩)
    exact Tot.ret ⟨_, inlN_inl 4 (hrow.inl (nx := 2) fun e => absurd e hne), rfl⟩
end
end Hb
end

section
set_option linter.unusedVariables false
set_option linter.unusedSimpArgs false
set_option linter.constructorNameAsVariable false
set_option autoImplicit false
set_option linter.unusedVariables false
set_option linter.unusedSimpArgs false
set_option linter.constructorNameAsVariable false
namespace Hb
open Go
def noneRs : List RuleV := [⟨7, false, .none, .none⟩]
theorem stepsV_ne {L : List Int} (h : L ≠ []) : ∃ c t, stepsV L = (c, 0) :: t := by
  have hp : 0 < L.length := List.length_pos_iff.2 h
  obtain ⟨n, hn⟩ : ∃ n, L.length = n + 1 := ⟨L.length - 1, by omega⟩
  unfold stepsV
  rw [hn, decAll, if_pos (by omega)]
  exact ⟨_, _, rfl⟩
theorem outs_none {L : List Int} (h : L ≠ []) : outsV noneRs L = [0, (L.length : Int)] := by
  obtain ⟨c, t, hs⟩ := stepsV_ne h
  unfold outsV
  rw [hs]
  simp only [List.map_cons]
  rw [cutsV_eq (by simp)]
  have hf : ∀ (l : List Nat) (u : List Int), l.filter (cutV noneRs u) = [] := by
    intro l u
    rw [List.filter_eq_nil_iff]
    intro a _
    simp [cutV, noneRs, fitsV]
  rw [hf]
  simp [atV, getI]
  rw [if_neg (by omega), if_neg (by omega)]
  exact ⟨rfl, by omega⟩
theorem outs_all {L : List Int} (h : L ≠ []) : outsV [] L = (stepsV L).map (·.2) ++ [(L.length : Int)] := by
  obtain ⟨c, t, hs⟩ := stepsV_ne h
  have hne : (stepsV L).map (·.1) ≠ [] := by rw [hs]; simp
  unfold outsV
  rw [cutsV_eq hne]
  have hl : ((stepsV L).map (·.1)).length = ((stepsV L).map (·.2)).length := by simp
  have hpos : 0 < ((stepsV L).map (·.2)).length := by rw [hs]; simp
  rw [hl]
  generalize (stepsV L).map (·.2) = a at hpos ⊢
  have hf : ∀ (l : List Nat) (u : List Int), l.filter (cutV [] u) = l := by
    intro l u
    rw [List.filter_eq_self]
    intro x _
    rfl
  rw [hf]
  have hr : (0 :: (List.range' 1 (a.length - 1) ++ [a.length])) = List.range (a.length + 1) := by
    rw [List.range_eq_range', List.range'_succ]
    congr 1
    rw [show a.length = (a.length - 1) + 1 from by omega, ← List.range'_append_1]
    simp
    omega
  rw [hr]
  apply List.ext_getElem?
  intro j
  rw [List.getElem?_map]
  by_cases h1 : j < a.length
  · rw [List.getElem?_range (by omega), List.getElem?_append_left h1]
    simp only [Option.map_some]
    rw [get_of h1]
    congr 1
    unfold atV
    rw [if_neg (by omega), if_neg (by omega)]
    rfl
  · by_cases h2 : j = a.length
    · subst h2
      rw [List.getElem?_range (by omega), List.getElem?_append_right (by omega)]
      simp [atV]
    · rw [List.getElem?_eq_none (by simp; omega), List.getElem?_eq_none (by simp; omega)]
      rfl
section
variable (I : Ids) (isOk isBk : List AV → Bool)
theorem bare_loop {R : Rec} {v27 v22 v : AV} {at' : List Int} {L : List Int} (h27 : encI64.decS v27 = some (at' ++ [(L.length : Int)])) (h22 : encI64.decS v22 = some at') (hv : (encI .u8).decS v = some L) (hat : at'.length ≤ 200) {s : ES} :
    ∀ (m i fuel : Nat), i + m = at'.length → m < fuel → lp [12] fuel (B_LBarel4 I R v27 v22 (B_LBarej1 I R v27 v22 v)) (.i .i64 (i : Nat)) [] s = some (.ret (.b true) s) := by
  have hlen : (at' ++ [(L.length : Int)]).length = at'.length + 1 := by simp
  intro m
  induction m with
  | zero =>
    intro i fuel hi hf
    cases fuel with
    | zero => omega
    | succ f =>
      have hd : decide ((i : Int) < (at'.length : Int)) = false := decide_eq_false (by omega)
      have hw : IntKind.i64.wrap ((at'.length : Nat) + 1 : Int) = ((at'.length + 1 : Nat) : Int) := by rw [wrap64 (by omega) (by omega)]; omega
      have hlast : (at' ++ [(L.length : Int)])[at'.length]? = some (L.length : Int) := by simp
      rw [lp_s]
      generalize lp [12] f _ = K
      unfold B_LBarel4
      simp only [jn_d, encI64.pLen_v h22, bLss_i, hd]
      generalize B_LBarej3 I R _ _ _ _ [] s = X
      rw [eCond_b, cond_false]
      unfold B_LBarej1
      simp only [jv_d, eGuard_b, pPick_b, eLeave_nil, bAdd_i, bEql_i, cond_true, Bool.not_true, encI64.pLen_v h27, encI64.pLen_v h22, hlen, hw, decide_true, (encI .u8).pLen_v hv]
      rw [encI64.iadr (kk := 1) (i := at'.length) h27 rfl rfl (by simp)]
      rw [encI64.load_f (kk := 1) (o := 0) rfl hlast (by decide)]
      simp only [encI, bEql_i, List.getElem?_cons_zero, kont_v, decide_true]
  | succ m ih =>
    intro i fuel hi hf
    cases fuel with
    | zero => omega
    | succ f =>
      have hlt : i < at'.length := by omega
      have hd : decide ((i : Int) < (at'.length : Int)) = true := decide_eq_true (by omega)
      have hd2 : decide (((at'.length + 1 : Nat) : Int) ≤ (i : Int)) = false := decide_eq_false (by omega)
      have hw : IntKind.i64.wrap ((i : Nat) + 1 : Int) = ((i + 1 : Nat) : Int) := by rw [wrap64 (by omega) (by omega)]; omega
      have g2 : at'[i]? = some (getI at' i) := get_of hlt
      have g1 : (at' ++ [(L.length : Int)])[i]? = some (getI at' i) := by rw [List.getElem?_append_left hlt]; exact g2
      rw [lp_s, ← ih (i + 1) f (by omega) (by omega)]
      generalize lp [12] f _ = K
      unfold B_LBarel4
      simp only [jn_d, encI64.pLen_v h22, bLss_i, hd]
      generalize B_LBarej1 I R v27 v22 v [] s = X
      rw [eCond_b, cond_true]
      unfold B_LBarej3
      simp only [jn_d, jv_d, eCond_b, eGuard_b, pPick_b, eLeave_nil, bGeq_i, cond_true, cond_false, Bool.not_false, encI64.pLen_v h27, hlen, hd2]
      rw [encI64.iadr (kk := 1) (i := i) h27 rfl rfl (by simp; omega)]
      rw [encI64.load_f (kk := 1) (o := 0) rfl g1 (by decide)]
      simp only [encI, List.getElem?_cons_zero, kont_v]
      rw [encI64.iadr (kk := 1) (i := i) h22 rfl rfl hlt]
      rw [encI64.load_f (kk := 1) (o := 0) rfl g2 (by decide)]
      simp only [encI, eCond_b, bAdd_i, bNeq_i, cond_false, Bool.not_true, List.getElem?_cons_zero, kont_v, decide_true, B_LBarej2, hw]
theorem bare_book {R : Rec} {rs : List RuleV} {none : Bool} {rv sk v : AV} {L : List Int} (src : List Nat) (hbook : ∀ s, R.f (I.f 30) [.s src] s = some (.ret (.tup [.agg [rv, sk], .b true]) s)) (hrs : rs = if none then noneRs else [])
    (hr : encRule.decS rv = some rs) (hk : encS.decS sk = some []) (hbk : isBk [rv, sk] = true) (hok : rulesOk isOk rs = true) (hB : ∀ args s, R.f (I.f 39) args s = cloOv (bytesF isOk isBk) R args s) (hR : ∀ args s, R.f (I.f 40) args s = cloOv rRunesF R args s)
    (hv : (encI .u8).decS v = some L) (hb : bytesP L = true) (hL : L.length ≤ 200) : ∃ s', B_LBarej8 I R v (.b none) (.s src) [] (S [] 0) = some (.ret (.b true) s') := by
  let at' : List Int := (stepsV L).map (·.2)
  have hat : (rAll L.length L 0).map (·.2) = at' := rAll_at hb _ _
  have hst : (stepsV L).length ≤ L.length := decAll_len _ _ _
  let v21 : AV := rowC .i32 ((rAll L.length L 0).map (·.1))
  let v22 : AV := rowC .i64 at'
  have hlr : (rAll L.length L 0).length = at'.length := by rw [← hat]; simp
  have h21 : encR32.decS v21 = some ((rAll L.length L 0).map (·.1)) := rowC_dec .i32 _
  have h22 : encI64.decS v22 = some at' := rowC_dec .i64 _
  have hcv : Clo v := (encI .u8).clo_of hv
  have cR : ∀ s, R.f (I.f 40) [v] s = some (.ret (.tup [v21, v22, .b (rOk L.length L 0 true)]) s) := fun s => by
    rw [hR, cloOv_c (v := .tup [v21, v22, .b (rOk L.length L 0 true)]) (by simp only [CloL, and_true]; exact hcv) (by simp only [rRunesF, hv]; rw [if_pos ⟨hb, by omega⟩, hat])]
  have hrl : rs.length < 1000 := by rw [hrs]; cases none <;> decide
  have cB : ∀ s, R.f (I.f 39) [.agg [rv, sk], v] s = some (.ret (rowC .i64 (outsV rs L)) s) := fun s => by
    rw [hB, cloOv_c (v := rowC .i64 (outsV rs L)) (by simp only [CloL, Clo, and_true]; exact ⟨⟨encRule.clo_of hr, encS.clo_of hk⟩, hcv⟩) (by simp only [bytesF, hr, hk, hv]; rw [if_pos ⟨hbk, hok, hrl, hb, by omega⟩])]
  have h27 : encI64.decS (rowC .i64 (outsV rs L)) = some (outsV rs L) := rowC_dec .i64 _
  let b0 : Option Blk := some (.cells 0 false (I.t 8) 0 [rv, sk])
  have p21 : ∀ K : KP, pLen false v21 K = K (.i .i64 (at'.length : Nat)) := fun K => by rw [encR32.pLen_v h21]; simp [hlr]
  unfold B_LBarej8
  rw [hbook]
  simp only [callK_ret]
  rw [pExt_t rfl, pExt_t rfl, pRow_S (by simp)]
  simp only [List.length_nil, List.length_cons, List.nil_append, Nat.zero_add, Nat.reduceAdd]
  rw [pStore_S (n := 2) (kk := 2) (l := [some (.cells 0 false (I.t 8) 0 [.ns, .ns])]) (r := 0) (st' := 0) (T := I.t 8) (old := [.ns, .ns]) rfl rfl (AV.cells_agg _) rfl (by decide) (by simp) (by simp)]
  simp only [jn_d, jv_d, eCond_b, eGuard_b, pPick_b, eLeave_nil, cond_true, cond_false, List.length_nil, List.length_cons, List.nil_append, List.append_nil, List.drop_succ_cons, List.drop_nil, List.take_zero, List.set_cons_zero, Nat.zero_add, Nat.add_zero, Nat.zero_mul, Nat.reduceAdd]
  rw [cR]
  simp only [callK_ret]
  rw [pExt_t rfl, pExt_t rfl, pExt_t rfl]
  have main : ∃ s', B_LBarej7 I R (.p 0 0 2 0 0) v v22 (.b none) (.b true) v21 [] (S [b0] 1) = some (.ret (.b true) s') := by
    refine ⟨S [b0] 1, ?_⟩
    unfold B_LBarej7
    rw [pLoad_St (r := 0) (st' := 0) (cs := [rv, sk]) (T := I.t 8) (fz := 0) rfl rfl (by decide) (by simp)]
    simp only [List.drop_zero, List.take_succ_cons, List.take_nil, Nat.add_zero, Nat.zero_mul]
    rw [cB]
    simp only [callK_ret]
    by_cases h0 : L = []
    · have ha : at'.length = 0 := by subst h0; rfl
      have ho : outsV rs L = [] := by subst h0; simp [outsV, stepsV, decAll, cutsV_nil]
      simp only [jn_d, jv_d, eCond_b, eGuard_b, pPick_b, pUn_not, eLeave_nil, bEql_i, cond_true, cond_false, Bool.not_true, Bool.not_false, p21, ha, ho]
      rfl
    · obtain ⟨c, t, hs⟩ := stepsV_ne h0
      have ha : decide (((at'.length : Nat) : Int) = 0) = false := decide_eq_false (by simp only [at', hs, List.map_cons, List.length_cons]; omega)
      simp only [jn_d, jv_d, eCond_b, eGuard_b, pPick_b, pUn_not, eLeave_nil, bEql_i, cond_true, cond_false, Bool.not_true, Bool.not_false, p21, ha]
      cases none with
      | true =>
        have ho : outsV rs L = [0, (L.length : Int)] := by rw [hrs]; exact outs_none h0
        rw [ho] at h27 ⊢
        unfold B_LBarej6
        simp only [jn_d, jv_d, eCond_b, eGuard_b, pPick_b, eLeave_nil, bEql_i, cond_true, cond_false, Bool.not_false, Bool.cond_self, List.length_nil, List.length_cons, Nat.zero_add, Nat.reduceAdd, encI64.pLen_v h27]
        have g0 : ∀ (s : ES) (K : KP), (pIadrS s 1 (rowC .i64 [0, (L.length : Int)]) (.i .i64 0) fun p => pLoad s false 1 p K) = K (.i .i64 0) := fun s K => by
          rw [encI64.iadr (kk := 1) (i := 0) (z := 0) h27 rfl rfl (by simp), encI64.load_f (kk := 1) (o := 0) rfl (a := 0) rfl (by decide)]
          simp only [encI, List.getElem?_cons_zero, kont_v]
        have g1 : ∀ (s : ES) (K : KP), (pIadrS s 1 (rowC .i64 [0, (L.length : Int)]) (.i .i64 1) fun p => pLoad s false 1 p K) = K (.i .i64 (L.length : Nat)) := fun s K => by
          rw [encI64.iadr (kk := 1) (i := 1) (z := 1) h27 rfl rfl (by simp), encI64.load_f (kk := 1) (o := 0) rfl (a := (L.length : Int)) rfl (by decide)]
          simp only [encI, List.getElem?_cons_zero, kont_v]
        have hd2 : decide (((2 : Nat) : Int) = 2) = true := by decide
        simp only [hd2, cond_true]
        rw [g0]
        simp only [eGuard_b, pPick_b, bEql_i, cond_true, Bool.not_true, decide_true]
        rw [g1]
        simp only [bEql_i, (encI .u8).pLen_v hv, decide_true]
      | false =>
        have ho : outsV rs L = at' ++ [(L.length : Int)] := by rw [hrs]; exact outs_all h0
        rw [ho] at h27 ⊢
        unfold B_LBarej6
        simp only [jn_d, jv_d, eCond_b, eLeave_nil, cond_false]
        unfold B_LBarej5
        simp only [jn_d]
        exact bare_loop I h27 h22 hv (by simp only [at', List.length_map]; omega) at'.length 0 30000 (by omega) (by simp only [at', List.length_map]; omega)
  obtain ⟨s', hm⟩ := main
  cases none with
  | true =>
    by_cases h50 : 50 < at'.length
    · have d : decide ((50 : Int) < ((at'.length : Nat) : Int)) = true := decide_eq_true (by omega)
      refine ⟨S [b0] 1, ?_⟩
      simp only [eCond_b, bGtr_i, cond_true, p21, d]
      rfl
    · have d : decide ((50 : Int) < ((at'.length : Nat) : Int)) = false := decide_eq_false (by omega)
      refine ⟨s', ?_⟩
      rw [← hm]
      simp only [eCond_b, bGtr_i, cond_true, cond_false, p21, d]
      rfl
  | false =>
    refine ⟨s', ?_⟩
    rw [← hm]
    simp only [cond_false, Bool.cond_self]
    rfl
theorem LBare_c {R : Rec} {none : Bool} {rv0 sk0 rv1 sk1 v : AV} {L : List Int} (hknown : ∀ s, R.f (I.f 31) [] s = some (.ret (.b true) s)) (hbook0 : ∀ s, R.f (I.f 30) [.s []] s = some (.ret (.tup [.agg [rv0, sk0], .b true]) s)) (hbook1 : ∀ s, R.f (I.f 30) [.s [55,58,32,62,60]] s = some (.ret (.tup [.agg [rv1, sk1], .b true]) s))
    (hr0 : encRule.decS rv0 = some []) (hk0 : encS.decS sk0 = some []) (hbk0 : isBk [rv0, sk0] = true) (hr1 : encRule.decS rv1 = some noneRs) (hk1 : encS.decS sk1 = some []) (hbk1 : isBk [rv1, sk1] = true) (hok1 : rulesOk isOk noneRs = true)
    (hB : ∀ args s, R.f (I.f 39) args s = cloOv (bytesF isOk isBk) R args s) (hR : ∀ args s, R.f (I.f 40) args s = cloOv rRunesF R args s) (hv : (encI .u8).decS v = some L) (hl8 : ∀ x ∈ L, 0 ≤ x ∧ x ≤ 255) :
    ∃ s', B_LBare I R [v, .b none] (S [] 0) = some (.ret (.b true) s') := by
  have hb : bytesP L = true := by
    rw [bytesP, List.all_eq_true]
    intro x hx
    have := hl8 x hx
    simp; omega
  unfold B_LBare
  simp only [args2, jn_d, hknown, callK_ret, pUn_not, Bool.not_true, eCond_b, cond_false]
  unfold B_LBarej10
  simp only [jn_d, (encI .u8).pLen_v hv, bGtr_i]
  by_cases h200 : 200 < L.length
  · have d : decide ((200 : Int) < ((L.length : Nat) : Int)) = true := decide_eq_true (by omega)
    refine ⟨S [] 0, ?_⟩
    simp only [d, eCond_b, eLeave_nil, cond_true]
  have d : decide ((200 : Int) < ((L.length : Nat) : Int)) = false := decide_eq_false (by omega)
  simp only [d, eCond_b, eLeave_nil, cond_false]
  unfold B_LBarej9
  cases none with
  | true =>
    simp only [jn_d, eCond_b, cond_true]
    exact bare_book I isOk isBk (none := true) _ hbook1 rfl hr1 hk1 hbk1 hok1 hB hR hv hb (by omega)
  | false =>
    simp only [jn_d, eCond_b, cond_false]
    exact bare_book I isOk isBk (none := false) _ hbook0 rfl hr0 hk0 hbk0 rfl hB hR hv hb (by omega)
end
end Hb
end
