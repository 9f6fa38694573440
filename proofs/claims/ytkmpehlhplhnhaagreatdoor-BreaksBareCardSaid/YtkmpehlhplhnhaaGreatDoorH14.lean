/- A layer for programs of small data: values, stores, code, and an evaluator of code that the kernel runs; part 14. -/
import Derived.Test.YtkmpehlhplhnhaaGreatDoorH13

section
set_option linter.unusedVariables false
set_option linter.unusedSimpArgs false
set_option linter.constructorNameAsVariable false
set_option autoImplicit false
set_option linter.unusedVariables false
set_option linter.unusedSimpArgs false
set_option linter.constructorNameAsVariable false
namespace Hb
open Go
section
variable {I : Ids}
theorem DecSlow_multi (hT : Tabs8 I) {R : Rec} {v : AV} {p0 : Int} {l : List Int} (hv : (encI .u8).decS v = some l) (h0 : l[0]? = some p0) (hp : 0 ≤ p0 ∧ p0 ≤ 255) {c : Int} (hx : firstI p0 = c) (hc : c < 240) {sz ai : Nat} (h7 : andI .u8 c 7 = (sz : Nat)) (hs : sz = 2 ∨ sz = 3 ∨ sz = 4)
    (h4 : shrI .u8 c 4 = (ai : Nat)) (ha : ai < 16) {lo hi : Int} (hlo : accL[2 * ai]? = some lo) (hhi : accL[2 * ai + 1]? = some hi) :
    ∃ s', B_DecSlow I R [v] (S [] 0) = some (.ret (.tup [.i .i32 (decM p0 sz lo hi l).1, .i .i64 (decM p0 sz lo hi l).2]) s') := by
  have hlen : 0 < l.length := (List.getElem?_eq_some_iff.1 h0).1
  have hld : ∀ (s : ES) (i : Nat) (kd : IntKind) (z : Int) (K : KP), z = (i : Nat) → i < l.length → (pIadrS s 1 v (.i kd z) fun p => pLoad s false 1 p K) = K (.i .u8 (getI l i)) := by
    intro s i kd z K hz hi
    rw [(encI .u8).iadr (kk := 1) hv rfl hz hi, (encI .u8).load_f (kk := 1) (o := 0) rfl (get_of hi) (by decide)]
    simp only [encI, List.getElem?_cons_zero, kont_v]
  have hg0 : getI l 0 = p0 := by unfold getI; rw [h0]; rfl
  have hw : IntKind.i64.wrap (sz : Int) = (sz : Int) := wrap64 (by omega) (by omega)
  have d1 : decide ((l.length : Int) < 1) = false := by simp; omega
  have d2 : decide ((240 : Int) ≤ c) = false := by simp; omega
  have e63 : (0:Int) ≤ 4 := by decide
  let σ : List (Option Blk) := [some (.cells 0 false (I.t 13) 0 [.i .u8 lo, .i .u8 hi])]
  have hlo' : ∀ K : KP, pLoad (S σ 1) false 1 (.p 0 0 2 0 0) K = K (.i .u8 lo) := fun K => by
    rw [pLoad_Sf (st' := 0) (T := I.t 13) (fz := 0) (cs := [.i .u8 lo, .i .u8 hi]) rfl rfl (by decide) (by simp)]; rfl
  have hhi' : ∀ K : KP, pLoad (S σ 1) false 1 (.p 0 0 2 0 1) K = K (.i .u8 hi) := fun K => by
    rw [pLoad_Sf (st' := 0) (T := I.t 13) (fz := 0) (cs := [.i .u8 lo, .i .u8 hi]) rfl rfl (by decide) (by simp)]; rfl
  have hf : ∀ (o : Nat) (K : KP), pFadr (S σ 1) o (.p 0 0 2 0 0) K = K (.p 0 0 2 0 o) := fun o K => by rw [pFadr_p (st' := 0) (T := I.t 13) (fz := 0) (cs := [.i .u8 lo, .i .u8 hi]) rfl rfl, Nat.zero_add]
  unfold B_DecSlow
  simp only [args1, (encI .u8).pLen_v hv, jn_d, bLss_i, d1, eCond_b, cond_false]
  unfold B_DecSlowj8
  rw [hld _ 0 .i64 0 _ rfl hlen, hg0, fst_load hT hp.1 hp.2, hx]
  simp only [jn_d, bGeq_i, d2, eCond_b, cond_false]
  unfold B_DecSlowj7
  simp only [pBin_and, h7, pInt_i, hw]
  rw [pBin_shr _ _ _ _ (by decide), h4, acc_load hT ha hlo hhi rfl, pRow_S (by simp)]
  simp only [List.length_nil, List.length_cons, List.nil_append, Nat.zero_add, Nat.reduceAdd]
  rw [pStore_S (n := 2) (kk := 2) (l := [some (.cells 0 false (I.t 13) 0 [.i .u8 0, .i .u8 0])]) (r := 0) (st' := 0) (T := I.t 13) (old := [.i .u8 0, .i .u8 0]) rfl rfl (AV.cells_agg _) rfl (by decide) (by simp) (by simp)]
  simp only [jn_d, eCond_b, eLeave_nil, bLss_i, List.length_nil, List.length_cons, List.nil_append, List.append_nil, List.drop_succ_cons, List.drop_nil, List.take_zero, List.set_cons_zero, Nat.zero_add, Nat.add_zero, Nat.zero_mul, Nat.reduceAdd]
  by_cases hls : l.length < sz
  · have d3 : decide ((l.length : Int) < (sz : Int)) = true := by simp; omega
    refine ⟨S σ 1, ?_⟩
    unfold decM
    rw [if_pos hls]
    simp only [d3, cond_true]
    rfl
  have d3 : decide ((l.length : Int) < (sz : Int)) = false := by simp; omega
  simp only [d3, cond_false]
  have l1 : 1 < l.length := by omega
  have q1 : ∀ K : KP, (pIadrS (S σ 1) 1 v (.i .i64 1) fun p => pLoad (S σ 1) false 1 p K) = K (.i .u8 (getI l 1)) := fun K => hld _ 1 .i64 1 K rfl l1
  have ret : ∀ (x y : Int), decM p0 sz lo hi l = (x, y) → ∃ s', (some (Ans.ret (AV.tup [.i .i32 x, .i .i64 y]) (S σ 1)) : Res) = some (.ret (.tup [.i .i32 (decM p0 sz lo hi l).1, .i .i64 (decM p0 sz lo hi l).2]) s') := fun x y h => ⟨S σ 1, by rw [h]⟩
  unfold decM at ret ⊢
  rw [if_neg hls] at ret ⊢
  show ∃ s', B_DecSlowj6 I R v (.i .u8 p0) (.i .i64 sz) (.p 0 0 2 0 0) [] (S σ 1) = _
  unfold B_DecSlowj6
  rw [q1]
  simp only [jn_d, jv_d, eCond_b, eGuard_b, pPick_b, eLeave_nil, bLss_i, cond_true, cond_false, hf, hlo', hhi']
  by_cases hb1 : getI l 1 < lo
  · rw [if_pos (Or.inl hb1)] at ret ⊢
    simp only [decide_eq_true hb1, cond_true, cond_false, Bool.not_true, Bool.cond_self]
    exact ret _ _ rfl
  by_cases hb2 : hi < getI l 1
  · rw [if_pos (Or.inr hb2)] at ret ⊢
    simp only [decide_eq_false hb1, decide_eq_true hb2, cond_true, cond_false, Bool.not_false, Bool.cond_self]
    exact ret _ _ rfl
  rw [if_neg (by rintro (h | h); exact hb1 h; exact hb2 h)] at ret ⊢
  simp only [decide_eq_false hb1, decide_eq_false hb2, cond_true, cond_false, Bool.not_false]
  unfold B_DecSlowj5
  by_cases h2 : sz ≤ 2
  · have e2 : decide ((sz : Int) ≤ 2) = true := by simp; omega
    rw [if_pos h2] at ret ⊢
    simp only [jn_d, eCond_b, eLeave_nil, bLeq_i, pInt_i, cond_true, e2, pBin_and, pBin_or, pBin_shl _ _ _ _ (show (0:Int) ≤ 6 by decide)]
    exact ret _ _ rfl
  have e2 : decide ((sz : Int) ≤ 2) = false := by simp; omega
  rw [if_neg h2] at ret ⊢
  simp only [jn_d, eCond_b, eLeave_nil, bLeq_i, cond_false, e2]
  have l2 : 2 < l.length := by omega
  have q2 : ∀ K : KP, (pIadrS (S σ 1) 1 v (.i .i64 2) fun p => pLoad (S σ 1) false 1 p K) = K (.i .u8 (getI l 2)) := fun K => hld _ 2 .i64 2 K rfl l2
  unfold B_DecSlowj4
  rw [q2]
  by_cases hc1 : getI l 2 < 128
  · rw [if_pos (Or.inl hc1)] at ret ⊢
    simp only [decide_eq_true hc1, jn_d, jv_d, eCond_b, eGuard_b, pPick_b, eLeave_nil, bLss_i, cond_true, cond_false, Bool.not_true, Bool.cond_self]
    exact ret _ _ rfl
  by_cases hc2 : 191 < getI l 2
  · rw [if_pos (Or.inr hc2)] at ret ⊢
    simp only [decide_eq_false hc1, decide_eq_true hc2, jn_d, jv_d, eCond_b, eGuard_b, pPick_b, eLeave_nil, bLss_i, cond_true, cond_false, Bool.not_false, Bool.cond_self]
    exact ret _ _ rfl
  rw [if_neg (by rintro (h | h); exact hc1 h; exact hc2 h)] at ret ⊢
  simp only [decide_eq_false hc1, decide_eq_false hc2, jn_d, jv_d, eCond_b, eGuard_b, pPick_b, eLeave_nil, bLss_i, cond_true, cond_false, Bool.not_false]
  unfold B_DecSlowj3
  by_cases h3 : sz ≤ 3
  · have e3 : decide ((sz : Int) ≤ 3) = true := by simp; omega
    rw [if_pos h3] at ret ⊢
    simp only [jn_d, eCond_b, eLeave_nil, bLeq_i, pInt_i, cond_true, e3, pBin_and, pBin_or, pBin_shl _ _ _ _ (show (0:Int) ≤ 6 by decide), pBin_shl _ _ _ _ (show (0:Int) ≤ 12 by decide)]
    exact ret _ _ rfl
  have e3 : decide ((sz : Int) ≤ 3) = false := by simp; omega
  rw [if_neg h3] at ret ⊢
  simp only [jn_d, eCond_b, eLeave_nil, bLeq_i, cond_false, e3]
  have l3 : 3 < l.length := by omega
  have q3 : ∀ K : KP, (pIadrS (S σ 1) 1 v (.i .i64 3) fun p => pLoad (S σ 1) false 1 p K) = K (.i .u8 (getI l 3)) := fun K => hld _ 3 .i64 3 K rfl l3
  unfold B_DecSlowj2
  rw [q3]
  by_cases hd1 : getI l 3 < 128
  · rw [if_pos (Or.inl hd1)] at ret ⊢
    simp only [decide_eq_true hd1, jn_d, jv_d, eCond_b, eGuard_b, pPick_b, eLeave_nil, bLss_i, cond_true, cond_false, Bool.not_true, Bool.cond_self]
    exact ret _ _ rfl
  by_cases hd2' : 191 < getI l 3
  · rw [if_pos (Or.inr hd2')] at ret ⊢
    simp only [decide_eq_false hd1, decide_eq_true hd2', jn_d, jv_d, eCond_b, eGuard_b, pPick_b, eLeave_nil, bLss_i, cond_true, cond_false, Bool.not_false, Bool.cond_self]
    exact ret _ _ rfl
  rw [if_neg (by rintro (h | h); exact hd1 h; exact hd2' h)] at ret ⊢
  simp only [decide_eq_false hd1, decide_eq_false hd2', jn_d, jv_d, eCond_b, eGuard_b, pPick_b, eLeave_nil, bLss_i, cond_true, cond_false, Bool.not_false]
  unfold B_DecSlowj1
  simp only [eLeave_nil, pInt_i, pBin_and, pBin_or, pBin_shl _ _ _ _ (show (0:Int) ≤ 6 by decide), pBin_shl _ _ _ _ (show (0:Int) ≤ 12 by decide), pBin_shl _ _ _ _ (show (0:Int) ≤ 18 by decide)]
  exact ret _ _ rfl
end
end Hb
end

section
set_option linter.unusedVariables false
set_option linter.unusedSimpArgs false
set_option linter.constructorNameAsVariable false
set_option autoImplicit false
set_option linter.unusedVariables false
set_option linter.unusedSimpArgs false
set_option linter.constructorNameAsVariable false
namespace Hb
open Go
section
variable {I : Ids}
theorem mask_one : ∀ n : Nat, n < 256 → orI .i32 (andNotI .i32 (IntKind.i32.wrap (n : Int)) (shrI .i32 (shlI .i32 (IntKind.i32.wrap 241) 31) 31)) (andI .i32 65533 (shrI .i32 (shlI .i32 (IntKind.i32.wrap 241) 31) 31)) = 65533 := by decide +kernel
theorem bytesP_mem {l : List Int} (h : bytesP l = true) : ∀ x ∈ l, 0 ≤ x ∧ x ≤ 255 := by
  intro x hx
  have := List.all_eq_true.1 h x hx
  simpa using this
def decSlowF : List AV → Option AV
  | [v] => match (encI .u8).decS v with
    | some l => if bytesP l = true ∧ l.length < 100000 ∧ ∀ p, l[0]? = some p → 128 ≤ p then some (.tup [.i .i32 (decV l).1, .i .i64 (decV l).2]) else none
    | none => none
  | _ => none
theorem decSlow_c (hT : Tabs8 I) (R : Rec) (as : List AV) (w : AV) (h : decSlowF as = some w) : Tot (fun v0 s0 => ∃ v', Inl Fla s0.st.1 v0 v' ∧ v' = w) (B_DecSlow I R as (S [] 0)) := by
  unfold decSlowF at h
  split at h
  case h_2 => cases h
  rename_i v
  split at h
  case h_2 => cases h
  rename_i l hv
  split at h
  case isFalse => cases h
  rename_i hc
  obtain ⟨hb, hl, h128⟩ := hc
  cases h
  have fin : (∃ s', B_DecSlow I R [v] (S [] 0) = some (.ret (.tup [.i .i32 (decV l).1, .i .i64 (decV l).2]) s')) → Tot (fun v0 s0 => ∃ v', Inl Fla s0.st.1 v0 v' ∧ v' = .tup [.i .i32 (decV l).1, .i .i64 (decV l).2]) (B_DecSlow I R [v] (S [] 0)) := by
    rintro ⟨s', hs⟩
    rw [hs]
    exact Tot.ret ⟨_, .clo _ (by simp only [Fla, FlaL, and_self]), rfl⟩
  apply fin
  cases l with
  | nil =>
    refine ⟨S [] 0, ?_⟩
    unfold B_DecSlow
    simp only [args1, (encI .u8).pLen_v hv, args1, jn_d, eCond_b, bLss_i, List.length_nil]
    rfl
  | cons p0 t =>
    have h1 : 128 ≤ p0 := h128 p0 rfl
    have hp := bytesP_mem hb p0 (by simp)
    have hne : ¬ p0 < 128 := by omega
    by_cases hbad : p0 < 194 ∨ 244 < p0
    · have hx : firstI p0 = 241 := by
        unfold firstI
        rw [if_neg hne]
        split
        · rfl
        · repeat (rw [if_neg (by omega)])
      have hd : decV (p0 :: t) = (65533, 1) := by simp only [decV]; rw [if_neg hne, if_pos hbad]
      refine ⟨S [] 0, ?_⟩
      have hld : ∀ (s : ES) (K : KP), (pIadrS s 1 v (.i .i64 0) fun p => pLoad s false 1 p K) = K (.i .u8 p0) := by
        intro s K
        rw [(encI .u8).iadr (kk := 1) (i := 0) (z := 0) hv rfl rfl (by simp), (encI .u8).load_f (kk := 1) (o := 0) rfl (a := p0) rfl (by decide)]
        simp only [encI, List.getElem?_cons_zero, kont_v]
      have d1 : decide ((((p0 :: t).length : Nat) : Int) < 1) = false := decide_eq_false (by simp only [List.length_cons]; omega)
      unfold B_DecSlow
      simp only [args1, (encI .u8).pLen_v hv, jn_d, bLss_i, d1, eCond_b, cond_false]
      unfold B_DecSlowj8
      rw [hld, fst_load hT hp.1 hp.2, hx]
      have d2 : decide ((240 : Int) ≤ 241) = true := by decide
      simp only [jn_d, bGeq_i, d2, eCond_b, cond_true, pInt_i, pBin_shl _ _ _ _ (show (0:Int) ≤ 31 by decide), pBin_shr _ _ _ _ (show (0:Int) ≤ 31 by decide)]
      rw [hld]
      simp only [pInt_i, pBin_andNot, pBin_and, pBin_or, eLeave_nil]
      have := mask_one p0.toNat (by omega)
      rw [show ((p0.toNat : Nat) : Int) = p0 from by omega] at this
      rw [this, hd]
    · have hd : decV (p0 :: t) = decM p0 (szI p0) (loI p0) (upI p0) (p0 :: t) := by simp only [decV]; rw [if_neg hne, if_neg hbad]
      rw [hd]
      have go := fun {c : Int} (hx : firstI p0 = c) (hc : c < 240) {ai : Nat} (h7 : andI .u8 c 7 = (szI p0 : Nat)) (h4 : shrI .u8 c 4 = (ai : Nat)) (ha : ai < 16) (hlo : accL[2 * ai]? = some (loI p0)) (hhi : accL[2 * ai + 1]? = some (upI p0)) =>
        DecSlow_multi hT (R := R) hv (p0 := p0) rfl hp hx hc h7 (by unfold szI; split; exact .inl rfl; split; exact .inr (.inl rfl); exact .inr (.inr rfl)) h4 ha hlo hhi
      by_cases c1 : p0 < 224
      · have e1 : szI p0 = 2 := by unfold szI; rw [if_pos c1]
        have e2 : loI p0 = 128 := by unfold loI; rw [if_neg (by omega), if_neg (by omega)]
        have e3 : upI p0 = 191 := by unfold upI; rw [if_neg (by omega), if_neg (by omega)]
        refine go (c := 2) (ai := 0) (by unfold firstI; rw [if_neg hne, if_neg (by omega), if_pos c1]) (by decide) (by rw [e1]; decide) (by decide) (by decide) (by rw [e2]; rfl) (by rw [e3]; rfl)
      by_cases c2 : p0 < 240
      · have e1 : szI p0 = 3 := by unfold szI; rw [if_neg c1, if_pos c2]
        by_cases c3 : p0 = 224
        · subst c3
          exact go (c := 19) (ai := 1) rfl (by decide) (by decide) (by decide) (by decide) rfl rfl
        by_cases c4 : p0 = 237
        · subst c4
          exact go (c := 35) (ai := 2) rfl (by decide) (by decide) (by decide) (by decide) rfl rfl
        have e2 : loI p0 = 128 := by unfold loI; rw [if_neg (by omega), if_neg (by omega)]
        have e3 : upI p0 = 191 := by unfold upI; rw [if_neg (by omega), if_neg (by omega)]
        refine go (c := 3) (ai := 0) (by unfold firstI; rw [if_neg hne, if_neg (by omega), if_neg c1, if_neg c3, if_neg c4, if_pos c2]) (by decide) (by rw [e1]; decide) (by decide) (by decide) (by rw [e2]; rfl) (by rw [e3]; rfl)
      · have e1 : szI p0 = 4 := by unfold szI; rw [if_neg c1, if_neg c2]
        by_cases c3 : p0 = 240
        · subst c3
          exact go (c := 52) (ai := 3) rfl (by decide) (by decide) (by decide) (by decide) rfl rfl
        by_cases c4 : p0 = 244
        · subst c4
          exact go (c := 68) (ai := 4) rfl (by decide) (by decide) (by decide) (by decide) rfl rfl
        have e2 : loI p0 = 128 := by unfold loI; rw [if_neg (by omega), if_neg (by omega)]
        have e3 : upI p0 = 191 := by unfold upI; rw [if_neg (by omega), if_neg (by omega)]
        refine go (c := 4) (ai := 0) (by unfold firstI; rw [if_neg hne, if_neg (by omega), if_neg c1, if_neg (by omega), if_neg (by omega), if_neg c2, if_neg c3, if_pos (by omega)]) (by decide) (by rw [e1]; decide) (by decide) (by decide) (by rw [e2]; rfl) (by rw [e3]; rfl)
theorem decRune_c {R : Rec} (hs : ∀ args s, R.f (I.f 33) args s = flatOv decSlowF R args s) (as : List AV) (w : AV) (h : decF as = some w) : Tot (fun v0 s0 => ∃ v', Inl Fla s0.st.1 v0 v' ∧ v' = w) (B_DecRune I R as (S [] 0)) := by
  unfold decF at h
  split at h
  case h_2 => cases h
  rename_i v
  split at h
  case h_2 => cases h
  rename_i l hv
  split at h
  case isFalse => cases h
  rename_i hc
  obtain ⟨hb, hl⟩ := hc
  cases h
  have slow : (∀ p, l[0]? = some p → 128 ≤ p) → B_DecRunej1 I R v [] (S [] 0) = some (.ret (.tup [.i .i32 (decV l).1, .i .i64 (decV l).2]) (S [] 0)) := by
    intro h128
    unfold B_DecRunej1
    rw [hs, flatOv_c (v := .tup [.i .i32 (decV l).1, .i .i64 (decV l).2]) (by simp only [CloL, and_true]; exact (encI .u8).clo_of hv) (by simp only [decSlowF, hv]; rw [if_pos ⟨hb, hl, h128⟩]), callK_ret, pExt_t rfl, pExt_t rfl]
    simp only [eLeave_nil]
  have fin : B_DecRune I R [v] (S [] 0) = some (.ret (.tup [.i .i32 (decV l).1, .i .i64 (decV l).2]) (S [] 0)) := by
    unfold B_DecRune
    simp only [args1, jn_d, (encI .u8).pLen_v hv]
    rw [show (30000 : Nat) = 29999 + 1 from rfl, lp_s]
    unfold B_DecRunel5
    cases l with
    | nil =>
      simp only [bLss_i, jn_d, eCond_b, List.length_nil]
      exact slow (fun p hp => by simp at hp)
    | cons p0 t =>
      have d1 : decide ((0 : Int) < (((p0 :: t).length : Nat) : Int)) = true := decide_eq_true (by simp only [List.length_cons]; omega)
      simp only [bLss_i, jn_d, eCond_b, d1, cond_true]
      unfold B_DecRunej4
      rw [(encI .u8).iadr (kk := 1) (i := 0) (z := 0) hv rfl rfl (by simp), (encI .u8).load_f (kk := 1) (o := 0) rfl (a := p0) rfl (by decide)]
      simp only [encI, List.getElem?_cons_zero, kont_v, jn_d, bLss_i, eCond_b]
      have hp := bytesP_mem hb p0 (by simp)
      by_cases h1 : p0 < 128
      · rw [decide_eq_true h1]
        have : decV (p0 :: t) = (p0, 1) := by simp only [decV]; rw [if_pos h1]
        simp only [cond_true, pInt_i, eLeave_nil, this]
        rw [show IntKind.i32.wrap p0 = p0 from wrap32 (by omega) (by omega)]
      · rw [decide_eq_false h1]
        simp only [cond_false, B_DecRunej3]
        exact slow (fun p hp => by cases hp; omega)
  rw [fin]
  exact Tot.ret ⟨_, .clo _ (by simp only [Fla, FlaL, and_self]), rfl⟩
end
end Hb
end

section
set_option linter.unusedVariables false
set_option linter.unusedSimpArgs false
set_option linter.constructorNameAsVariable false
set_option autoImplicit false
set_option linter.unusedVariables false
set_option linter.unusedSimpArgs false
set_option linter.constructorNameAsVariable false
namespace Hb
open Go
def AllEx (Ψ : ES → Prop) : Ans → Prop
  | .ret _ _ => False
  | .ex e _ s => e = .normal ∧ Ψ s
  | .two x y => AllEx Ψ x ∧ AllEx Ψ y
def TotX (Ψ : ES → Prop) (r : Res) : Prop := ∃ a, r = some a ∧ AllEx Ψ a
theorem TotX.two {Ψ : ES → Prop} {x y : Res} (hx : TotX Ψ x) (hy : TotX Ψ y) : TotX Ψ (both x y) := by
  obtain ⟨a, rfl, ha⟩ := hx
  obtain ⟨b, rfl, hb⟩ := hy
  exact ⟨_, rfl, ha, hb⟩
theorem TotX.ex {Ψ : ES → Prop} {f : Nat → AV} {s : ES} (h : Ψ s) : TotX Ψ (some (.ex .normal f s)) := ⟨_, rfl, rfl, h⟩
theorem TotX.exK {Ψ : ES → Prop} {Φ : AV → ES → Prop} {r : Res} {K : XExit → (Nat → AV) → ES → Res} (h : TotX Ψ r) (hK : ∀ f s, Ψ s → Tot Φ (K .normal f s)) : Tot Φ (exK r K) := by
  obtain ⟨a, rfl, ha⟩ := h
  show Tot Φ (exA a K)
  induction a with
  | ret v s => exact ha.elim
  | ex e f s => obtain ⟨rfl, hs⟩ := ha; exact hK f s hs
  | two x y ihx ihy => exact Tot.both (ihx ha.1) (ihy ha.2)
theorem avEq_i (k : IntKind) (n : Int) : avEq (.i k n) (.i k n) = true := by
  have : ∀ eq, avEq1 eq (.i k n) (.i k n) = true := fun eq => by
    show (kEq k k && iEq n n) = true
    rw [kEq_eq, iEq_eq]; simp
  exact this (Nat.rec (motive := fun _ => AV → AV → Bool) (fun _ _ => false) (fun _ ih x y => avEq1 ih x y) 19)
theorem avEq_p (r st k i o : Nat) : avEq (.p r st k i o) (.p r st k i o) = true := by
  have : ∀ eq, avEq1 eq (.p r st k i o) (.p r st k i o) = true := fun eq => by unfold avEq1; simp
  exact this (Nat.rec (motive := fun _ => AV → AV → Bool) (fun _ _ => false) (fun _ ih x y => avEq1 ih x y) 19)
theorem avEq_ns : avEq .ns .ns = true := rfl
theorem RowAt.eq {k : IntKind} {T : Nat} {a : List Int} {v : AV} {l : List (Option Blk)} (h : RowAt k T a v l) : avEq v v = true := by
  rcases h with ⟨_, rfl⟩ | ⟨_, r, st, T', rfl, _⟩ | ⟨_, r, st, rfl, _⟩
  · exact avEq_ns
  · exact avEq_gr _ _ _ _ _
  · exact avEq_gr _ _ _ _ _
theorem row_appL {k : IntKind} {T T' : Nat} {a : List Int} {v : AV} {l : List (Option Blk)} {nx rl stl : Nat} {z : Int} (h : RowAt k T a v l) (hz : l[rl]? = some (some (.cells stl false T' 0 [.i k z]))) (ha : a.length < 100000) (hl : l.length < 900000000) :
    ∃ v1 l1 nx1, RowAt k T (a ++ [z]) v1 l1 ∧ l.length ≤ l1.length ∧ l1.length ≤ l.length + 1 ∧ (∀ r, r < l.length → Off v r → l1[r]? = l[r]?) ∧ Same v v1 l ∧
      ∀ C : AV → ES → Res, pAppend (S l nx) T 1 v (.gr rl stl 0 1 1) C = C v1 (S l1 nx1) := by
  have hlit : ∀ C : AV → ES → Res, pAppend (S l nx) T 1 v (.gr rl stl 0 1 1) C = pApp (S l nx) T 1 v 1 [.i k z] C := by
    intro C
    unfold pAppend
    rw [cellsK_gr hz rfl (by simp)]
    rfl
  rcases h with ⟨rfl, rfl⟩ | ⟨rfl, r, st, T', rfl, h2⟩ | ⟨hne, r, st, rfl, h2⟩
  · refine ⟨.gr l.length nx 0 1 1, l ++ [some (.cells nx false T 0 [.i k z])], nx + 1, .inr (.inr ⟨by simp, _, _, rfl, by simp⟩), by simp, by simp, fun r hr _ => List.getElem?_append_left hr, fun r hr _ => Off.of (by omega), fun C => ?_⟩
    rw [hlit, pApp_nsS (by decide) (by decide) (by omega)]
  · have hr := (List.getElem?_eq_some_iff.1 h2).1
    refine ⟨.gr r nx 0 1 1, l.set r (some (Blk.cells nx false T 0 [.i k z])), nx + 1, .inr (.inr ⟨by simp, _, _, rfl, by rw [List.getElem?_set_self hr]; simp⟩), by simp, by simp, fun q hq ho => List.getElem?_set_ne (Ne.symm ho.gr), fun q hq ho => Off.of ho.gr, fun C => ?_⟩
    rw [hlit, pApp_vS h2 rfl (by decide) (by decide) (by decide) (by omega)]
  · have hr := (List.getElem?_eq_some_iff.1 h2).1
    refine ⟨.gr r nx 0 (a.length + 1) 1, l.set r (some (Blk.cells nx false T 0 (a.map (.i k) ++ [.i k z]))), nx + 1, .inr (.inr ⟨by simp, r, nx, by simp, by rw [List.getElem?_set_self hr]; simp⟩), by simp, by simp, fun q hq ho => List.getElem?_set_ne (Ne.symm ho.gr), fun q hq ho => Off.of ho.gr, fun C => ?_⟩
    rw [hlit, pApp_grS (st' := st) (old := a.map (.i k)) h2 rfl (by simp) (by decide) (by decide) (by omega) (by omega)]
structure RunSt (I : Ids) (q nq : Nat) (c at' : Int) (g wr ws : AV) (l : List (Option Blk)) : Prop where
  f0 : l[0]? = some (some (.cells 0 false (I.t 9) 0 [wr]))
  f1 : l[1]? = some (some (.cells 1 false (I.t 12) 0 [ws]))
  fq : l[q]? = some (some (.cells nq false (I.t 15) 0 [.i .i32 c, .i .i64 at', g]))
  er : avEq wr wr = true
  es : avEq ws ws = true
section
variable {I : Ids} {q nq : Nat} {c at' : Int} {g : AV} {wr ws : AV} {l : List (Option Blk)}
theorem RunSt.ldr (h : RunSt I q nq c at' g wr ws l) (nx : Nat) (K : KP) : pLoad (S l nx) false 1 (.p 0 0 1 0 0) K = K wr := by
  rw [pLoad_Sf h.f0 rfl (by decide) (by simp)]; rfl
theorem RunSt.lds (h : RunSt I q nq c at' g wr ws l) (nx : Nat) (K : KP) : pLoad (S l nx) false 1 (.p 1 1 1 0 0) K = K ws := by
  rw [pLoad_Sf h.f1 rfl (by decide) (by simp)]; rfl
theorem RunSt.fa (h : RunSt I q nq c at' g wr ws l) (nx o : Nat) (K : KP) : pFadr (S l nx) o (.p q nq 3 0 0) K = K (.p q nq 3 0 o) := by
  rw [pFadr_p h.fq rfl, Nat.zero_add]
theorem RunSt.l0 (h : RunSt I q nq c at' g wr ws l) (nx : Nat) (K : KP) : pLoad (S l nx) false 1 (.p q nq 3 0 0) K = K (.i .i32 c) := by
  rw [pLoad_Sf h.fq rfl (by decide) (by simp)]; rfl
theorem RunSt.l1 (h : RunSt I q nq c at' g wr ws l) (nx : Nat) (K : KP) : pLoad (S l nx) false 1 (.p q nq 3 0 1) K = K (.i .i64 at') := by
  rw [pLoad_Sf h.fq rfl (by decide) (by simp)]; rfl
theorem RunSt.same {l1 : List (Option Blk)} (h : RunSt I q nq c at' g wr ws l) (h0 : l1[0]? = l[0]?) (h1 : l1[1]? = l[1]?) (hq : l1[q]? = l[q]?) : RunSt I q nq c at' g wr ws l1 := ⟨h0.trans h.f0, h1.trans h.f1, hq.trans h.fq, h.er, h.es⟩
theorem RunSt.push (h : RunSt I q nq c at' g wr ws l) (x : Option Blk) : RunSt I q nq c at' g wr ws (l ++ [x]) := by
  have e : ∀ {r : Nat} {y : Option Blk}, l[r]? = some y → (l ++ [x])[r]? = l[r]? := fun h => List.getElem?_append_left (List.getElem?_eq_some_iff.1 h).1
  exact h.same (e h.f0) (e h.f1) (e h.fq)
theorem lit1S {k : IntKind} {T nx : Nat} {z : Int} (hl : l.length < 900000000) (C : AV → ES → Res) : (pLit (S l nx) T 1 1 [.i k 0] [(0, 1, .i k z)] fun x s => C x s) = C (.gr l.length nx 0 1 1) (S (l ++ [some (.cells nx false T 0 [.i k z])]) (nx + 1)) := by
  rw [pLit_S (by omega), fill1]
theorem two_stores {Ψ : ES → Prop} {l : List (Option Blk)} {nx : Nat} {w1 w2 wr ws : AV} {T0 T1 : Nat} (f0 : l[0]? = some (some (.cells 0 false T0 0 [wr]))) (f1 : l[1]? = some (some (.cells 1 false T1 0 [ws]))) (c1 : w1.cells = some [w1]) (c2 : w2.cells = some [w2]) (hl : l.length < 900000000)
    (h : Ψ (S ((l.set 0 (some (.cells 0 false T0 0 [w1]))).set 1 (some (.cells 1 false T1 0 [w2]))) nx)) :
    TotX Ψ (pStore (S l nx) 1 (.p 0 0 1 0 0) w1 fun _ s20 => pStore s20 1 (.p 1 1 1 0 0) w2 fun _ s22 => some (.ex .normal (envL []) s22)) := by
  rw [pStore_S (n := 1) (kk := 1) (r := 0) (st' := 0) (T := T0) (old := [wr]) (cs := [w1]) f0 rfl c1 rfl (by decide) (by simp) (by omega)]
  rw [pStore_S (n := 1) (kk := 1) (r := 1) (st' := 1) (T := T1) (old := [ws]) (cs := [w2]) (by rw [List.getElem?_set_ne (by decide)]; exact f1) rfl c2 rfl (by decide) (by simp) (by simp; omega)]
  exact TotX.ex h
theorem RowAt.cells {k : IntKind} {T : Nat} {a : List Int} {v : AV} {l : List (Option Blk)} (h : RowAt k T a v l) : v.cells = some [v] := by
  rcases h with ⟨_, rfl⟩ | ⟨_, r, st, T', rfl, _⟩ | ⟨_, r, st, rfl, _⟩ <;> rfl
def RoundQ (I : Ids) (q : Nat) (c at' : Int) (a b : List Int) (l : List (Option Blk)) (s : ES) : Prop :=
  ∃ l1 nx1 w1 w2, s = S l1 nx1 ∧ l1[0]? = some (some (.cells 0 false (I.t 9) 0 [w1])) ∧ l1[1]? = some (some (.cells 1 false (I.t 12) 0 [w2])) ∧ RowAt .i32 (I.t 1) (a ++ [c]) w1 l1 ∧ RowAt .i64 (I.t 10) (b ++ [at']) w2 l1 ∧
    (∀ r, r ≤ 4 → 1 < r → l1[r]? = l[r]?) ∧ (∀ r, r ≤ 4 → Off w1 r ∧ Off w2 r) ∧ (∀ r, ¬ Off w1 r → Off w2 r) ∧ l.length ≤ l1.length ∧ l1.length ≤ l.length + 4
theorem run_c1 {R : Rec} {a b : List Int} (h : RunSt I q nq c at' g wr ws l) (ra : RowAt .i32 (I.t 1) a wr l) (rb : RowAt .i64 (I.t 10) b ws l) (hq : 4 < q) (hlen : q < l.length) (off : ∀ r, (r ≤ 4 ∨ r = q) → Off wr r ∧ Off ws r) (ap : ∀ r, ¬ Off wr r → Off ws r)
    (ha : a.length < 100000) (hb : b.length < 100000) (hl : l.length < 800000000) {nx : Nat} {f : Nat → AV} (h4 : f 4 = .p 0 0 1 0 0) (h5 : f 5 = .p 1 1 1 0 0) (h6 : f 6 = .p q nq 3 0 0) :
    TotX (RoundQ I q c at' a b l) (C1_Runes I R f (S l nx)) := by
  have fin : ∀ (l1 : List (Option Blk)) (nx1 : Nat) (w1 w2 : AV), RunSt I q nq c at' g wr ws l1 → RowAt .i32 (I.t 1) (a ++ [c]) w1 l1 → RowAt .i64 (I.t 10) (b ++ [at']) w2 l1 → (∀ r, r < l.length → 1 < r → r ≤ 4 → l1[r]? = l[r]?) → (∀ r, r ≤ 4 → Off w1 r ∧ Off w2 r) →
      (∀ r, ¬ Off w1 r → Off w2 r) → l.length ≤ l1.length → l1.length ≤ l.length + 4 →
      TotX (RoundQ I q c at' a b l) (pStore (S l1 nx1) 1 (.p 0 0 1 0 0) w1 fun _ s20 => pStore s20 1 (.p 1 1 1 0 0) w2 fun _ s22 => some (.ex .normal (envL []) s22)) := by
    intro l1 nx1 w1 w2 g0 g1 g2 g3 g4 g5 g6 g7
    have n0 : ∀ r, ¬ Off w1 r → 1 < r := fun r hr => by
      rcases Nat.lt_or_ge 1 r with h | h
      · exact h
      · exact absurd (g4 r (by omega)).1 hr
    have n1 : ∀ r, ¬ Off w2 r → 1 < r := fun r hr => by
      rcases Nat.lt_or_ge 1 r with h | h
      · exact h
      · exact absurd (g4 r (by omega)).2 hr
    have ks : ∀ (r : Nat) (x y : Option Blk), 1 < r → ((l1.set 0 x).set 1 y)[r]? = l1[r]? := fun r x y hr => by rw [List.getElem?_set_ne (by omega), List.getElem?_set_ne (by omega)]
    refine two_stores g0.f0 g0.f1 g1.cells g2.cells (by omega) ⟨_, nx1, w1, w2, rfl, ?_, ?_, g1.keep fun r hr => ks r _ _ (n0 r hr), g2.keep fun r hr => ks r _ _ (n1 r hr), fun r h1 h2 => (ks r _ _ h2).trans (g3 r (by omega) h2 h1), g4, g5, by simp; omega, by simp; omega⟩
    · rw [List.getElem?_set_ne (by decide), List.getElem?_set_self (by omega)]
    · rw [List.getElem?_set_self (by simp; omega)]
  have sm : ∀ {m m1 : List (Option Blk)}, RunSt I q nq c at' g wr ws m → q < m.length → (∀ r, r < m.length → Off wr r → m1[r]? = m[r]?) → RunSt I q nq c at' g wr ws m1 := fun hm hq' hk =>
    hm.same (hk 0 (by omega) (off 0 (by omega)).1) (hk 1 (by omega) (off 1 (by omega)).1) (hk q hq' (off q (.inr rfl)).1)
  have apC : ∀ r, ¬ Off ws r → Off wr r := fun r hr => Classical.byContradiction fun hn => hr (ap r hn)
  have rlt := ra.lt
  have rltb := rb.lt
  -- both numbers are laid: the rows grow
  have tail : ∀ (m : List (Option Blk)) (n p32 s32 p64 s64 : Nat), RunSt I q nq c at' g wr ws m → (∀ r, r < l.length → m[r]? = l[r]?) → l.length ≤ m.length → m.length ≤ l.length + 2 → l.length ≤ p32 → l.length ≤ p64 →
      m[p32]? = some (some (.cells s32 false (I.t 1) 0 [.i .i32 c])) → m[p64]? = some (some (.cells s64 false (I.t 10) 0 [.i .i64 at'])) →
      TotX (RoundQ I q c at' a b l) (pAppend (S m n) (I.t 1) 1 wr (.gr p32 s32 0 1 1) fun v13 s14 => pLoad s14 false 1 (.p q nq 3 0 1) fun v29 => cond (avEq v29 (.i .i64 at')) (pFadr s14 1 (.p q nq 3 0 0) fun v28 => cond (avEq v28 (.p q nq 3 0 1)) (pLoad s14 false 1 (.p 1 1 1 0 0) fun v27 => cond (avEq v27 ws) (pAppend s14 (I.t 10) 1 ws (.gr p64 s64 0 1 1) fun v17 s18 =>
        pStore s18 1 (.p 0 0 1 0 0) v13 fun _ s20 => pStore s20 1 (.p 1 1 1 0 0) v17 fun _ s22 => some (.ex .normal (envL []) s22)) none) none) none) := by
    intro m n p32 s32 p64 s64 hm hml hm1 hm2 e32 e64 g32 g64
    have ram : RowAt .i32 (I.t 1) a wr m := ra.keep fun r hr => hml r (rlt r hr)
    have rbm : RowAt .i64 (I.t 10) b ws m := rb.keep fun r hr => hml r (rltb r hr)
    have lt64 := (List.getElem?_eq_some_iff.1 g64).1
    obtain ⟨w1, m1, n1, k1, k2, k3, k4, k5, k6⟩ := row_appL (nx := n) ram g32 ha (by omega)
    rw [k6]
    have h1 := sm hm (by omega) k4
    have rb1 : RowAt .i64 (I.t 10) b ws m1 := rbm.keep fun r hr => k4 r (by have := rltb r hr; omega) (apC r hr)
    have o64 : Off wr p64 := Classical.byContradiction fun hn => by have := rlt p64 hn; omega
    obtain ⟨w2, m2, n2, j1, j2, j3, j4, j5, j6⟩ := row_appL (nx := n1) rb1 ((k4 p64 lt64 o64).trans g64) hb (by omega)
    simp only [h1.l1, h1.fa, h1.lds, avEq_i, avEq_p, h1.es, cond_true]
    rw [j6]
    -- where the rows lie
    have own1 : ∀ r, ¬ Off w1 r → ¬ Off wr r ∨ m.length ≤ r := fun r hr => by
      rcases Nat.lt_or_ge r m.length with hlt | hge
      · exact .inl fun ho => hr (k5 r hlt ho)
      · exact .inr hge
    have own2 : ∀ r, ¬ Off w2 r → ¬ Off ws r ∨ m1.length ≤ r := fun r hr => by
      rcases Nat.lt_or_ge r m1.length with hlt | hge
      · exact .inl fun ho => hr (j5 r hlt ho)
      · exact .inr hge
    have lt1 := k1.lt
    have off1 : ∀ r, ¬ Off w1 r → Off ws r := fun r hr => by
      rcases own1 r hr with h | h
      · exact ap r h
      · exact Classical.byContradiction fun hn => by have := rltb r hn; omega
    refine fin m2 n2 w1 w2 (h1.same (j4 0 (by omega) (off 0 (by omega)).2) (j4 1 (by omega) (off 1 (by omega)).2) (j4 q (by omega) (off q (.inr rfl)).2)) (k1.keep fun r hr => j4 r (lt1 r hr) (off1 r hr)) j1 (fun r h1 h2 h3 => ?_) (fun r hr => ⟨?_, ?_⟩) (fun r hr => ?_) (by omega) (by omega)
    · rw [j4 r (by omega) (off r (by omega)).2, k4 r (by omega) (off r (by omega)).1, hml r h1]
    · exact k5 r (by omega) (off r (.inl hr)).1
    · exact j5 r (by omega) (off r (.inl hr)).2
    · exact Classical.byContradiction fun hn => by
        rcases own2 r hn with h | h
        · exact h (off1 r hr)
        · have := lt1 r hr; omega
  unfold C1_Runes
  have ht : ∀ K : AV → AV → AV → Res, tmpsK [4,5,6] f K = K (f 4) (f 5) (f 6) := fun K => by
    show whV (f 4) (fun v => whV (f 5) fun v' => whV (f 6) fun v'' => K v v' v'') = _
    simp only [whV_eq]
  rw [ht, h4, h5, h6]
  simp only [h.ldr, h.fa, h.l0, h.lds, h.l1]
  apply TotX.two
  · rw [lit1S (by omega)]
    have hA := h.push (some (.cells nx false (I.t 1) 0 [.i .i32 c]))
    simp only [hA.ldr, hA.fa, hA.lds, hA.l1, avEq_i, avEq_p, hA.es, hA.er, cond_true]
    apply TotX.two
    · -- one behind the other
      have hml : ∀ r, r < l.length → (l ++ [some (.cells nx false (I.t 1) 0 [AV.i .i32 c])])[r]? = l[r]? := fun r hr => List.getElem?_append_left hr
      generalize hm : l ++ [some (.cells nx false (I.t 1) 0 [AV.i .i32 c])] = m at hA hml ⊢
      have hm1 : m.length = l.length + 1 := by rw [← hm]; simp
      have g32 : m[l.length]? = some (some (.cells nx false (I.t 1) 0 [.i .i32 c])) := by rw [← hm]; simp
      have ram : RowAt .i32 (I.t 1) a wr m := ra.keep fun r hr => hml r (rlt r hr)
      have rbm : RowAt .i64 (I.t 10) b ws m := rb.keep fun r hr => hml r (rltb r hr)
      obtain ⟨w1, m1, n1, k1, k2, k3, k4, k5, k6⟩ := row_appL (nx := nx + 1) ram g32 ha (by omega)
      rw [k6]
      have h1 := sm hA (by omega) k4
      have rb1 : RowAt .i64 (I.t 10) b ws m1 := rbm.keep fun r hr => k4 r (by have := rltb r hr; omega) (apC r hr)
      simp only [h1.l1, h1.fa, h1.lds, avEq_i, avEq_p, h1.es, cond_true]
      rw [lit1S (by omega)]
      have h2 := h1.push (some (.cells n1 false (I.t 10) 0 [.i .i64 at']))
      simp only [h2.ldr, h2.fa, h2.l0, h2.lds, avEq_i, avEq_p, h2.es, h2.er, cond_true]
      have kml : ∀ r, r < m1.length → (m1 ++ [some (.cells n1 false (I.t 10) 0 [AV.i .i64 at'])])[r]? = m1[r]? := fun r hr => List.getElem?_append_left hr
      have g64 : (m1 ++ [some (.cells n1 false (I.t 10) 0 [AV.i .i64 at'])])[m1.length]? = some (some (.cells n1 false (I.t 10) 0 [.i .i64 at'])) := by simp
      have rb2 : RowAt .i64 (I.t 10) b ws (m1 ++ [some (.cells n1 false (I.t 10) 0 [AV.i .i64 at'])]) := rb1.keep fun r hr => kml r (rb1.lt r hr)
      obtain ⟨w2, m2, n2, j1, j2, j3, j4, j5, j6⟩ := row_appL (nx := n1 + 1) rb2 g64 hb (by simp; omega)
      rw [j6]
      simp only [List.length_append, List.length_cons, List.length_nil] at j2 j3 j4 j5
      have own1 : ∀ r, ¬ Off w1 r → ¬ Off wr r ∨ m.length ≤ r := fun r hr => by
        rcases Nat.lt_or_ge r m.length with hlt | hge
        · exact .inl fun ho => hr (k5 r hlt ho)
        · exact .inr hge
      have own2 : ∀ r, ¬ Off w2 r → ¬ Off ws r ∨ m1.length + 1 ≤ r := fun r hr => by
        rcases Nat.lt_or_ge r (m1.length + 1) with hlt | hge
        · exact .inl fun ho => hr (j5 r (by simp; omega) ho)
        · exact .inr hge
      have lt1 := k1.lt
      have off1 : ∀ r, ¬ Off w1 r → Off ws r := fun r hr => by
        rcases own1 r hr with h | h
        · exact ap r h
        · exact Classical.byContradiction fun hn => by have := rltb r hn; omega
      have e2 : ∀ r, r < m1.length → Off ws r → m2[r]? = m1[r]? := fun r hr ho => (j4 r (by omega) ho).trans (kml r hr)
      refine fin m2 n2 w1 w2 (h1.same (e2 0 (by omega) (off 0 (by omega)).2) (e2 1 (by omega) (off 1 (by omega)).2) (e2 q (by omega) (off q (.inr rfl)).2)) (k1.keep fun r hr => e2 r (lt1 r hr) (off1 r hr)) j1 (fun r h1 h2 h3 => ?_) (fun r hr => ⟨?_, ?_⟩) (fun r hr => ?_) (by omega) (by omega)
      · rw [e2 r (by omega) (off r (by omega)).2, k4 r (by omega) (off r (by omega)).1, hml r h1]
      · exact k5 r (by omega) (off r (.inl hr)).1
      · exact j5 r (by simp; omega) (off r (.inl hr)).2
      · exact Classical.byContradiction fun hn => by
          rcases own2 r hn with h | h
          · exact h (off1 r hr)
          · have := lt1 r hr; omega
    · rw [lit1S (by simp; omega)]
      have hB := hA.push (some (.cells (nx + 1) false (I.t 10) 0 [.i .i64 at']))
      simp only [hB.ldr, hB.fa, hB.l0, hB.lds, avEq_i, avEq_p, hB.es, hB.er, cond_true]
      exact tail _ _ _ _ _ _ hB (fun r hr => by rw [List.getElem?_append_left (by simp; omega), List.getElem?_append_left hr]) (by simp) (by simp) (Nat.le_refl _) (by simp) (by simp) (by simp)
  · rw [lit1S (by omega)]
    have hA := h.push (some (.cells nx false (I.t 10) 0 [.i .i64 at']))
    simp only [hA.ldr, hA.fa, hA.l0, hA.lds, avEq_i, avEq_p, hA.es, hA.er, cond_true]
    rw [lit1S (by simp; omega)]
    have hB := hA.push (some (.cells (nx + 1) false (I.t 1) 0 [.i .i32 c]))
    simp only [hB.ldr, hB.fa, hB.lds, hB.l1, avEq_i, avEq_p, hB.es, hB.er, cond_true]
    exact tail _ _ _ _ _ _ hB (fun r hr => by rw [List.getElem?_append_left (by simp; omega), List.getElem?_append_left hr]) (by simp) (by simp) (by simp) (Nat.le_refl _) (by simp) (by simp)
end
end Hb
end

section
set_option linter.unusedVariables false
set_option linter.unusedSimpArgs false
set_option linter.constructorNameAsVariable false
set_option autoImplicit false
set_option linter.unusedVariables false
set_option linter.unusedSimpArgs false
set_option linter.constructorNameAsVariable false
namespace Hb
open Go
theorem decM_size {p0 : Int} {lo hi : Int} {l : List Int} (h : l ≠ []) : 1 ≤ (decM p0 (szI p0) lo hi l).2 ∧ (decM p0 (szI p0) lo hi l).2 ≤ l.length := by
  have hl : 0 < l.length := List.length_pos_iff.2 h
  have hs : szI p0 = 2 ∨ szI p0 = 3 ∨ szI p0 = 4 := by unfold szI; split; exact .inl rfl; split; exact .inr (.inl rfl); exact .inr (.inr rfl)
  unfold decM
  repeat' split
  all_goals (simp only; omega)
theorem decV_size {l : List Int} (h : l ≠ []) : 1 ≤ (decV l).2 ∧ (decV l).2 ≤ l.length := by
  have hl : 0 < l.length := List.length_pos_iff.2 h
  cases l with
  | nil => exact absurd rfl h
  | cons p t =>
    simp only [decV]
    repeat' split
    · simp only; omega
    · simp only; omega
    · exact decM_size h
def decAll : Nat → List Int → Nat → List (Int × Int)
  | 0, _, _ => []
  | f + 1, l, at' => if at' < l.length then ((decV (l.drop at')).1, (at' : Int)) :: decAll f l (at' + (decV (l.drop at')).2.toNat) else []
theorem decAll_len : ∀ (f : Nat) (l : List Int) (i : Nat), (decAll f l i).length ≤ f
  | 0, _, _ => Nat.le_refl _
  | f + 1, l, i => by
    unfold decAll
    split
    · have := decAll_len f l (i + (decV (l.drop i)).2.toNat)
      simp only [List.length_cons]; omega
    · simp
theorem fill3 {c a : Int} {g : Bool} {C : List AV → Res} : fillK [.i .i32 0, .i .i64 0, .b false] [(0, 1, .i .i32 c), (1, 1, .i .i64 a), (2, 1, .b g)] C = C [.i .i32 c, .i .i64 a, .b g] := rfl
theorem encI_L (k : IntKind) (a : List Int) : (encI k).encL a = a.map (.i k) := by
  simp only [Enc.encL]
  rw [← List.flatMap_singleton' (a.map (AV.i k))]
  simp [List.flatMap_map, encI]
theorem pLsl_slLo {s : ES} {n m : Nat} {cs : List AV} {kd : IntKind} {z : Int} {k : KP} (hz : z = (m : Nat)) (hm : m ≤ n) : pLsl s 1 (.sl 1 n cs) (some (.i kd z)) none none k = k (.sl 1 (n - m) ((cs.drop (m * 1)).take ((n - m) * 1))) := by
  subst hz
  show cond (Nat.beq 1 1) (cond (Nat.ble m n) (frcLA ((cs.drop (m * 1)).take ((n - m) * 1)) fun l => frcN (n - m) fun n => k (.sl 1 n l)) none) none = _
  rw [Nat.ble_eq_true_of_le hm]
  simp only [frcN_eq, frcLA_eq]
  rfl
section
variable {I : Ids}
theorem steps1_iter {R : Rec} {v bx : AV} {l : List Int} {r st : Nat} (hv : (encI .u8).decS v = some l) (hb : bytesP l = true) (hl : l.length < 20000) (hdec : ∀ args s, R.f (I.f 35) args s = flatOv decF R args s) (Inv : List (Int × Int) → ES → Prop)
    (hbox : ∀ a s K, Inv a s → pLoad s false 1 bx K = K v)
    (hround : ∀ a s c i g Φ (K : KV), Inv a s → a.length < 30000 → (∀ s', Inv (a ++ [(c, i)]) s' → Tot Φ (K (.b true) s')) → Tot Φ (eRound R.b r st [.agg [.i .i32 c, .i .i64 i, .b g]] s K)) :
    ∀ (m i fuel : Nat) (a : List (Int × Int)) (s : ES), l.length ≤ i + m → i ≤ l.length → m < fuel → a.length ≤ i → Inv a s →
      Tot (fun w s' => w = .tup [] ∧ Inv (a ++ decAll m l i) s') (lp [3] fuel (B_steps1l3 I R bx (.fy r st)) (.i .i64 (i : Nat)) [] s) := by
  have stop : ∀ (i : Nat) (a : List (Int × Int)) (s : ES) (m : Nat) (K : Cur [3]), ¬ i < l.length → Inv a s → Tot (fun w s' => w = .tup [] ∧ Inv (a ++ decAll m l i) s') (B_steps1l3 I R bx (.fy r st) K (.i .i64 (i : Nat)) [] s) := by
    intro i a s m K hi hinv
    have hd : decide ((i : Int) < (l.length : Int)) = false := decide_eq_false (by omega)
    have he : decAll m l i = [] := by cases m with
      | zero => rfl
      | succ m => unfold decAll; rw [if_neg hi]
    simp only [B_steps1l3, jn_d, hbox _ _ _ hinv, (encI .u8).pLen_v hv, bLss_i, hd, eCond_b, cond_false, eLeave_nil, he, List.append_nil]
    exact Tot.ret ⟨rfl, hinv⟩
  intro m
  induction m with
  | zero =>
    intro i fuel a s h1 h2 h3 h4 hinv
    cases fuel with
    | zero => omega
    | succ f =>
      rw [lp_s]
      exact stop i a s 0 _ (by omega) hinv
  | succ m ih =>
    intro i fuel a s h1 h2 h3 h4 hinv
    cases fuel with
    | zero => omega
    | succ f =>
      rw [lp_s]
      by_cases hi : i < l.length
      · have hd : decide ((i : Int) < (l.length : Int)) = true := decide_eq_true (by omega)
        have hne : l.drop i ≠ [] := fun e => by have := congrArg List.length e; rw [List.length_drop] at this; simp only [List.length_nil] at this; omega
        obtain ⟨z1, z2⟩ := decV_size hne
        rw [List.length_drop] at z2
        obtain ⟨n, hn⟩ : ∃ n : Nat, (decV (l.drop i)).2 = (n : Int) := ⟨(decV (l.drop i)).2.toNat, by omega⟩
        have hvs : v = .sl 1 l.length (l.map (.i .u8)) := by
          rcases (encI .u8).decS_inv hv with ⟨e, _⟩ | e
          · rw [e] at hi; simp at hi
          · rw [e, Enc.sl, encI_L]; rfl
        have hsl : ((l.map (AV.i .u8)).drop (i * 1)).take ((l.length - i) * 1) = (l.drop i).map (.i .u8) := by
          rw [Nat.mul_one, Nat.mul_one, ← List.map_drop, ← List.map_take, List.take_of_length_le (by simp)]
        have hcall : ∀ s, R.f (I.f 35) [.sl 1 (l.length - i) ((l.drop i).map (.i .u8))] s = some (.ret (.tup [.i .i32 (decV (l.drop i)).1, .i .i64 (decV (l.drop i)).2]) s) := by
          intro s
          have hds := decI_sl .u8 (l.drop i)
          rw [List.length_drop] at hds
          have hbd : bytesP (l.drop i) = true := by
            rw [bytesP, List.all_eq_true] at hb ⊢
            exact fun x hx => hb x (List.mem_of_mem_drop hx)
          rw [hdec, flatOv_c (v := .tup [.i .i32 (decV (l.drop i)).1, .i .i64 (decV (l.drop i)).2]) (by simp only [CloL, and_true]; exact (encI .u8).clo_of hds) (by simp only [decF, hds]; rw [if_pos ⟨hbd, by rw [List.length_drop]; omega⟩])]
        have hw : IntKind.i64.wrap ((i : Nat) + (n : Int)) = ((i + n : Nat) : Int) := by rw [wrap64 (by omega) (by omega)]; omega
        have he : decAll (m + 1) l i = ((decV (l.drop i)).1, (i : Int)) :: decAll m l (i + n) := by
          rw [decAll, if_pos hi, hn]; rfl
        have hrec := fun (s' : ES) (h' : Inv (a ++ [((decV (l.drop i)).1, (i : Int))]) s') => ih (i + n) f (a ++ [((decV (l.drop i)).1, (i : Int))]) s' (by omega) (by omega) (by omega) (by simp; omega) h'
        rw [he]
        generalize lp [3] f (B_steps1l3 I R bx (.fy r st)) = K at hrec ⊢
        simp only [B_steps1l3, B_steps1j2, B_steps1j1, jn_d, hbox _ _ _ hinv, (encI .u8).pLen_v hv, bLss_i, hd, eCond_b, cond_true]
        have hlo : ∀ k : KP, pLsl s 1 v (some (.i .i64 (i : Nat))) none none k = k (.sl 1 (l.length - i) ((l.drop i).map (.i .u8))) := fun k => by
          rw [hvs, pLsl_slLo rfl (by omega), hsl]
        rw [hlo, hcall]
        simp only [callK_ret]
        rw [pExt_t rfl, pExt_t rfl]
        have fin : ∀ g : Bool, Tot (fun w s' => w = .tup [] ∧ Inv (a ++ ((decV (l.drop i)).1, (i : Int)) :: decAll m l (i + n)) s') (eRound R.b r st [.agg [.i .i32 (decV (l.drop i)).1, .i .i64 (i : Nat), .b g]] s fun v30 s31 => pUn .not v30 fun v32 => eCond v32 (some (.ret (.tup []) s31)) (K (.i .i64 (IntKind.i64.wrap ((i : Nat) + (decV (l.drop i)).2))) [] s31)) := by
          intro g
          refine hround a s _ _ g _ _ hinv (by omega) fun s' hs' => ?_
          have := hrec s' hs'
          rw [List.append_assoc] at this
          simp only [pUn_not, Bool.not_true, eCond_b, cond_false, hn, hw]
          exact this
        by_cases hr : (decV (l.drop i)).1 = 65533
        · have d : decide ((decV (l.drop i)).1 = 65533) = true := decide_eq_true hr
          simp only [jv_d, eGuard_b, pPick_b, eLeave_nil, bAdd_i, bNeq_i, bGtr_i, pBuild_d, cond_true, cond_false, Bool.not_true, Bool.not_false, d, fill3, eCallV_fy]
          exact fin _
        · have d : decide ((decV (l.drop i)).1 = 65533) = false := decide_eq_false hr
          simp only [jv_d, eGuard_b, pPick_b, eLeave_nil, bAdd_i, bNeq_i, bGtr_i, pBuild_d, cond_true, cond_false, Bool.not_true, Bool.not_false, Bool.cond_self, d, fill3, eCallV_fy]
          exact fin _
      · exact stop i a s (m + 1) _ hi hinv
end
end Hb
end

section
set_option linter.unusedVariables false
set_option linter.unusedSimpArgs false
set_option linter.constructorNameAsVariable false
set_option autoImplicit false
set_option linter.unusedVariables false
set_option linter.unusedSimpArgs false
set_option linter.constructorNameAsVariable false
namespace Hb
open Go
def rowC (k : IntKind) (a : List Int) : AV := match a with
  | [] => .ns
  | _ => .sl 1 a.length (a.map (.i k))
theorem rowC_dec (k : IntKind) (a : List Int) : (encI k).decS (rowC k a) = some a := by
  cases a with
  | nil => rfl
  | cons x t => exact decI_sl k (x :: t)
def stepsV (l : List Int) : List (Int × Int) := decAll l.length l 0
def runesF : List AV → Option AV
  | [v] => match (encI .u8).decS v with
    | some l => if bytesP l = true ∧ l.length < 20000 then some (.tup [rowC .i32 ((stepsV l).map (·.1)), rowC .i64 ((stepsV l).map (·.2))]) else none
    | none => none
  | _ => none
theorem RowAt.inl {k : IntKind} {T : Nat} {a : List Int} {v : AV} {l : List (Option Blk)} {nx : Nat} (h : RowAt k T a v l) (h0 : a = [] → v = .ns) : inlN 4 (S l nx) v = some (rowC k a) := by
  have hcla : CloL (a.map (AV.i k)) := by rw [CloL_iff]; intro x hx; obtain ⟨b, _, rfl⟩ := List.mem_map.1 hx; simp only [Clo]
  rcases h with ⟨rfl, rfl⟩ | ⟨rfl, r, st, T', rfl, h2⟩ | ⟨hne, r, st, rfl, h2⟩
  · exact inlN_clo (by simp only [Clo])
  · cases h0 rfl
  · rw [inlN_gr h2 rfl hcla (by simp), List.take_of_length_le (by simp)]
    cases a with
    | nil => exact absurd rfl hne
    | cons x t => rfl
section
variable {I : Ids}
theorem put9 {x y z : AV} : putAllB (envL [(4, x), (5, y)]) [9] [z] 4 = x ∧ putAllB (envL [(4, x), (5, y)]) [9] [z] 5 = y ∧ putAllB (envL [(4, x), (5, y)]) [9] [z] 9 = z := ⟨rfl, rfl, rfl⟩
theorem runes_c {R R1 R2 R3 : Rec} (hsteps : ∀ args s, R.f (I.f 36) args s = B_steps I R1 args s) (hh : ∀ args s, R.h (I.f 34) args s = B_steps1 I R2 args s) (hb0 : ∀ f s, R2.b 22 (I.x 4) f s = C0_Runes I R3 f s) (hb1 : ∀ f s, R2.b 22 (I.x 5) f s = C1_Runes I R3 f s)
    (hdec : ∀ args s, R2.f (I.f 35) args s = flatOv decF R2 args s) (as : List AV) (w : AV) (h : runesF as = some w) (hcl : CloL as) : Tot (fun v0 s0 => ∃ v', Inl Clo s0.st.1 v0 v' ∧ v' = w) (B_Runes I R as (S [] 0)) := by
  unfold runesF at h
  split at h
  case h_2 => cases h
  rename_i v
  split at h
  case h_2 => cases h
  rename_i L hv
  split at h
  case isFalse => cases h
  rename_i hc
  obtain ⟨hb, hL⟩ := hc
  cases h
  let ρ : Nat → AV := envL [(4, .p 0 0 1 0 0), (5, .p 1 1 1 0 0)]
  let lpR : LoopState → Option Blk := fun e => some (.loop 4 e none 22 ρ [9] (I.x 4) (I.x 5) 3 3)
  let Inv : List (Int × Int) → ES → Prop := fun a s => ∃ l nx w1 w2, s = S l nx ∧ l[0]? = some (some (.cells 0 false (I.t 9) 0 [w1])) ∧ l[1]? = some (some (.cells 1 false (I.t 12) 0 [w2])) ∧ l[2]? = some (some (.cells 2 false (I.t 14) 0 [v])) ∧
    l[3]? = some (some (.dfr 3)) ∧ l[4]? = some (lpR .ready) ∧ RowAt .i32 (I.t 1) (a.map (·.1)) w1 l ∧ RowAt .i64 (I.t 10) (a.map (·.2)) w2 l ∧ (∀ r, r ≤ 4 → Off w1 r ∧ Off w2 r) ∧ (∀ r, ¬ Off w1 r → Off w2 r) ∧ l.length ≤ 5 + 5 * a.length ∧ (a = [] → w1 = .ns ∧ w2 = .ns)
  have hbox : ∀ a s K, Inv a s → pLoad s false 1 (.p 2 2 1 0 0) K = K v := by
    rintro a s K ⟨l, nx, w1, w2, rfl, h0, h1, h2, _⟩
    rw [pLoad_Sf h2 rfl (by decide) (by simp)]; rfl
  have hround : ∀ a s c i g Φ (K : KV), Inv a s → a.length < 30000 → (∀ s', Inv (a ++ [(c, i)]) s' → Tot Φ (K (.b true) s')) → Tot Φ (eRound R2.b 4 4 [.agg [.i .i32 c, .i .i64 i, .b g]] s K) := by
    rintro a s c i g Φ K ⟨l, nx, w1, w2, rfl, h0, h1, h2, h3, h4, hr1, hr2, ho, hap, hlen, hns⟩ ha hK
    have l4 := (List.getElem?_eq_some_iff.1 h4).1
    let x0 : Option Blk := some (.cells nx false (I.t 15) 0 [.i .i32 c, .i .i64 i, .b g])
    have hA : C0_Runes I R3 (putAllB ρ [9] [.agg [.i .i32 c, .i .i64 i, .b g]]) (S l nx) = some (.ex .normal (envL [(4, .p 0 0 1 0 0), (5, .p 1 1 1 0 0), (6, .p l.length nx 3 0 0)]) (S (l ++ [x0]) (nx + 1))) := by
      unfold C0_Runes
      have ht : ∀ (f : Nat → AV) (K : AV → AV → AV → Res), tmpsK [4,5,9] f K = K (f 4) (f 5) (f 9) := fun f K => by
        show whV (f 4) (fun v => whV (f 5) fun v' => whV (f 9) fun v'' => K v v' v'') = _
        simp only [whV_eq]
      rw [ht, put9.1, put9.2.1, put9.2.2, pRow_S (by omega)]
      simp only [List.length_nil, List.length_cons, Nat.zero_add, Nat.reduceAdd]
      rw [pStore_S (n := 3) (kk := 3) (r := l.length) (st' := nx) (T := I.t 15) (old := [.i .i32 0, .i .i64 0, .b false]) (by simp) rfl (AV.cells_agg _) rfl (by decide) (by simp) (by simp; omega)]
      simp [x0]
    let m := (l ++ [x0]).set 4 (lpR .busy)
    have km : ∀ r, r < l.length → r ≠ 4 → m[r]? = l[r]? := fun r hr h => by
      show ((l ++ [x0]).set 4 (lpR .busy))[r]? = _
      rw [List.getElem?_set_ne (Ne.symm h), List.getElem?_append_left hr]
    have k4 : m[4]? = some (lpR .busy) := List.getElem?_set_self (by simp; omega)
    have n4a : ∀ r, ¬ Off w1 r → r ≠ 4 := fun r hr e => hr (e ▸ (ho 4 (Nat.le_refl _)).1)
    have n4b : ∀ r, ¬ Off w2 r → r ≠ 4 := fun r hr e => hr (e ▸ (ho 4 (Nat.le_refl _)).2)
    have hSt : RunSt I l.length nx c i (.b g) w1 w2 m := ⟨(km 0 (by omega) (by decide)).trans h0, (km 1 (by omega) (by decide)).trans h1, by
      show ((l ++ [x0]).set 4 (lpR .busy))[l.length]? = _
      rw [List.getElem?_set_ne (by omega)]; simp [x0], hr1.eq, hr2.eq⟩
    have rows1 : RowAt .i32 (I.t 1) (a.map (·.1)) w1 m := hr1.keep fun r hr => km r (hr1.lt r hr) (n4a r hr)
    have rows2 : RowAt .i64 (I.t 10) (a.map (·.2)) w2 m := hr2.keep fun r hr => km r (hr2.lt r hr) (n4b r hr)
    have offm : ∀ r, (r ≤ 4 ∨ r = l.length) → Off w1 r ∧ Off w2 r := fun r hr => by
      rcases hr with hr | rfl
      · exact ho r hr
      · exact ⟨Classical.byContradiction fun hn => Nat.lt_irrefl _ (hr1.lt _ hn), Classical.byContradiction fun hn => Nat.lt_irrefl _ (hr2.lt _ hn)⟩
    unfold eRound
    rw [S_sAt (st := 4) h4 rfl]
    simp only [lenR_eq, beqN, decide_true, cond_true, List.length_cons, List.length_nil]
    rw [hb0, hA, exK_ex]
    unfold eRoundMid
    simp only
    rw [S_sAt (st := 4) (l := l ++ [x0]) (by rw [List.getElem?_append_left l4]; exact h4) rfl]
    simp only
    rw [S_put (by simp; omega) (by simp; omega), hb1]
    refine TotX.exK (run_c1 (q := l.length) (l := m) hSt rows1 rows2 (by omega) (by simp [m]) offm hap (by simp; omega) (by simp; omega) (by simp [m]; omega) rfl rfl rfl) fun f s hQ => ?_
    obtain ⟨l1, nx1, v1, v2, rfl, q0, q1, q2, q3, q4, q5, q6, q7, q8⟩ := hQ
    have ml : m.length = l.length + 1 := by simp [m]
    have b4 : l1[4]? = some (lpR .busy) := (q4 4 (by omega) (by decide)).trans k4
    unfold eRoundEnd
    rw [S_sAt (st := 4) b4 rfl]
    simp only
    rw [S_put (by omega) (by omega)]
    have kk : ∀ r, r ≠ 4 → (l1.set 4 (lpR .ready))[r]? = l1[r]? := fun r hr => List.getElem?_set_ne (Ne.symm hr)
    refine hK _ ⟨_, nx1, v1, v2, rfl, (kk 0 (by decide)).trans q0, (kk 1 (by decide)).trans q1, ?_, ?_, List.getElem?_set_self (by omega), ?_, ?_, q5, q6, ?_, fun e => by simp at e⟩
    · rw [kk 2 (by decide), q4 2 (by decide) (by decide), km 2 (by omega) (by decide)]; exact h2
    · rw [kk 3 (by decide), q4 3 (by decide) (by decide), km 3 (by omega) (by decide)]; exact h3
    · rw [List.map_append]
      exact q2.keep fun r hr => kk r fun e => hr (e ▸ (q5 4 (Nat.le_refl _)).1)
    · rw [List.map_append]
      exact q3.keep fun r hr => kk r fun e => hr (e ▸ (q5 4 (Nat.le_refl _)).2)
    · simp; omega
  -- from the start
  have hD : (stepsV L).length ≤ L.length := decAll_len _ _ _
  let l0 : List (Option Blk) := [some (.cells 0 false (I.t 9) 0 [.ns]), some (.cells 1 false (I.t 12) 0 [.ns]), some (.cells 2 false (I.t 14) 0 [v]), some (.dfr 3), lpR .ready]
  have hI0 : Inv [] (S l0 5) := ⟨l0, 5, .ns, .ns, rfl, rfl, rfl, rfl, rfl, rfl, Or.inl ⟨rfl, rfl⟩, Or.inl ⟨rfl, rfl⟩, fun r _ => ⟨Off.ns, Off.ns⟩, fun r _ => Off.ns, by simp [l0], fun _ => ⟨rfl, rfl⟩⟩
  have hit := steps1_iter (R := R2) (bx := .p 2 2 1 0 0) (r := 4) (st := 4) hv hb hL hdec Inv hbox hround L.length 0 30000 [] (S l0 5) (by omega) (by omega) (by omega) (by simp) hI0
  have hrun : Tot (fun w s' => w = .tup [] ∧ Inv (stepsV L) s') (R.h (I.f 34) [.fy 4 4, .p 2 2 1 0 0] (S l0 5)) := by
    rw [hh]
    unfold B_steps1
    rw [args2]
    exact hit
  unfold B_Runes
  rw [args1, pRow_S (by simp)]
  simp only [List.length_nil, List.length_cons, List.nil_append, Nat.zero_add]
  rw [pRow_S (by simp)]
  simp only [List.length_nil, List.length_cons, List.nil_append, List.cons_append, Nat.zero_add, Nat.reduceAdd]
  simp only [jn_d]
  rw [hsteps]
  unfold B_steps
  rw [args1, pBox_S ((encI .u8).cells_of hv) (by simp)]
  simp only [List.length_nil, List.length_cons, List.nil_append, List.cons_append, Nat.zero_add, Nat.reduceAdd, callK_ret]
  rw [pRange_S rfl (by simp)]
  simp only [List.length_nil, List.length_cons, List.nil_append, List.cons_append, Nat.zero_add, Nat.reduceAdd]
  refine Tot.call hrun fun x s hx => ?_
  obtain ⟨rfl, l, nx, w1, w2, rfl, h0, h1, h2, h3, h4, hr1, hr2, ho, hap, hlen, hns⟩ := hx
  rw [eRangeEnd_S (N := 22) (ρ := ρ) (ps := [9]) (xa := I.x 4) (xb := I.x 5) (dr := 3) (ds := 3) h4 (by omega)]
  unfold B_Runesj1
  have g0 : (l.set 4 none)[0]? = l[0]? := List.getElem?_set_ne (by decide)
  have g1 : (l.set 4 none)[1]? = l[1]? := List.getElem?_set_ne (by decide)
  rw [pLoad_Sf (g0.trans h0) rfl (by decide) (by simp)]
  simp only [List.getElem?_cons_zero, Nat.add_zero, Nat.mul_one, kont_v]
  rw [pLoad_Sf (g1.trans h1) rfl (by decide) (by simp)]
  simp only [List.getElem?_cons_zero, Nat.add_zero, Nat.mul_one, kont_v]
  rw [eLeave_S (r := 3) (st := 3) (by rw [List.getElem?_set_ne (by decide)]; exact h3) (by simp; omega)]
  simp only [eLeave_nil]
  refine Tot.ret ⟨_, ?_, rfl⟩
  have kk : ∀ r, r ≠ 3 → r ≠ 4 → ((l.set 4 none).set 3 none)[r]? = l[r]? := fun r a b => by rw [List.getElem?_set_ne (Ne.symm a), List.getElem?_set_ne (Ne.symm b)]
  have k1 : RowAt .i32 (I.t 1) ((stepsV L).map (·.1)) w1 ((l.set 4 none).set 3 none) := hr1.keep fun r hr => kk r (fun e => hr (e ▸ (ho 3 (by decide)).1)) (fun e => hr (e ▸ (ho 4 (by decide)).1))
  have k2 : RowAt .i64 (I.t 10) ((stepsV L).map (·.2)) w2 ((l.set 4 none).set 3 none) := hr2.keep fun r hr => kk r (fun e => hr (e ▸ (ho 3 (by decide)).2)) (fun e => hr (e ▸ (ho 4 (by decide)).2))
  have nil1 : (stepsV L).map (·.1) = [] → w1 = .ns := fun e => (hns (List.map_eq_nil_iff.1 e)).1
  have nil2 : (stepsV L).map (·.2) = [] → w2 = .ns := fun e => (hns (List.map_eq_nil_iff.1 e)).2
  exact .tup _ _ (.cons _ _ _ _ (inlN_inl 4 (k1.inl (nx := nx) nil1)) (.cons _ _ _ _ (inlN_inl 4 (k2.inl (nx := nx) nil2)) .nil))
end
end Hb
end

section
set_option linter.unusedVariables false
set_option linter.unusedSimpArgs false
set_option linter.constructorNameAsVariable false
set_option autoImplicit false
set_option linter.unusedVariables false
set_option linter.unusedSimpArgs false
set_option linter.constructorNameAsVariable false
namespace Hb
open Go
def rloop : Nat → List Int → Nat → Int → Option Int
  | 0, _, _, r => some r
  | m + 1, l, i, r => if andI .u8 (getI l i) 192 = 128 then rloop m l (i + 1) (orI .i32 (shlI .i32 r 6) (IntKind.i32.wrap (andI .u8 (getI l i) 63))) else none
def rfin (n : Nat) (least r : Int) : Int × Int := if r < least ∨ 1114111 < r ∨ (55296 ≤ r ∧ r ≤ 57343) then (0, 0) else (r, (n : Int))
def roneM (n : Nat) (r0 least : Int) (l : List Int) : Int × Int := if l.length < n then (0, 0) else match rloop (n - 1) l 1 r0 with
  | none => (0, 0)
  | some r => rfin n least r
def roneV (l : List Int) : Int × Int :=
  if getI l 0 < 128 then (getI l 0, 1) else if getI l 0 < 192 then (0, 0) else if getI l 0 < 224 then roneM 2 (andI .i32 (getI l 0) 31) 128 l else
  if getI l 0 < 240 then roneM 3 (andI .i32 (getI l 0) 15) 2048 l else if getI l 0 < 248 then roneM 4 (andI .i32 (getI l 0) 7) 65536 l else (0, 0)
def roneF : List AV → Option AV
  | [v] => match (encI .u8).decS v with
    | some l => if bytesP l = true ∧ l.length < 100000 ∧ l ≠ [] then some (.tup [.i .i32 (roneV l).1, .i .i64 (roneV l).2]) else none
    | none => none
  | _ => none
theorem eGuard_t (w : Bool) (y n : Res) : eGuard (.tup []) w y n = n := rfl
section
variable {I : Ids}
theorem rone_fin {R : Rec} (n : Nat) (least r : Int) : B_ronej2 I R (.i .i64 (n : Nat)) (.i .i32 least) (.i .i32 r) [] (S [] 0) = some (.ret (.tup [.i .i32 (rfin n least r).1, .i .i64 (rfin n least r).2]) (S [] 0)) := by
  unfold rfin
  unfold B_ronej2
  by_cases c1 : r < least
  · rw [if_pos (Or.inl c1)]
    simp only [jn_d, jv_d, eCond_b, eGuard_b, pPick_b, eLeave_nil, bLss_i, bLeq_i, bGtr_i, bGeq_i, cond_true, cond_false, Bool.not_true, Bool.cond_self, decide_eq_true c1, eGuard_t]
  by_cases c2 : 1114111 < r
  · rw [if_pos (Or.inr (Or.inl c2))]
    simp only [jn_d, jv_d, eCond_b, eGuard_b, pPick_b, eLeave_nil, bLss_i, bLeq_i, bGtr_i, bGeq_i, cond_true, cond_false, Bool.not_true, Bool.not_false, Bool.cond_self, decide_eq_false c1, decide_eq_true c2, eGuard_t]
  by_cases c3 : 55296 ≤ r
  · by_cases c4 : r ≤ 57343
    · rw [if_pos (Or.inr (Or.inr ⟨c3, c4⟩))]
      simp only [jn_d, jv_d, eCond_b, eGuard_b, pPick_b, eLeave_nil, bLss_i, bLeq_i, bGtr_i, bGeq_i, cond_true, cond_false, Bool.not_true, Bool.not_false, Bool.cond_self, decide_eq_false c1, decide_eq_false c2, decide_eq_true c3, decide_eq_true c4, eGuard_t]
    · rw [if_neg (by omega)]
      simp only [jn_d, jv_d, eCond_b, eGuard_b, pPick_b, eLeave_nil, bLss_i, bLeq_i, bGtr_i, bGeq_i, cond_true, cond_false, Bool.not_true, Bool.not_false, Bool.cond_self, decide_eq_false c1, decide_eq_false c2, decide_eq_true c3, decide_eq_false c4, B_ronej1, eGuard_t]
  · rw [if_neg (by omega)]
    simp only [jn_d, jv_d, eCond_b, eGuard_b, pPick_b, eLeave_nil, bLss_i, bLeq_i, bGtr_i, bGeq_i, cond_true, cond_false, Bool.not_true, Bool.not_false, Bool.cond_self, decide_eq_false c1, decide_eq_false c2, decide_eq_false c3, B_ronej1, eGuard_t]
theorem rone_loop {R : Rec} {v : AV} {l : List Int} (hld : ∀ (s : ES) (i : Nat) (kd : IntKind) (z : Int) (K : KP), z = (i : Nat) → i < l.length → (pIadrS s 1 v (.i kd z) fun p => pLoad s false 1 p K) = K (.i .u8 (getI l i))) (n : Nat) (least : Int) (hn4 : n ≤ 4) (hnl : n ≤ l.length) : ∀ (m i fuel : Nat) (r : Int), i + m = n → m < fuel →
      lp [6,8] fuel (B_ronel6 I R v (.i .i64 (n : Nat)) (B_ronej2 I R (.i .i64 (n : Nat)) (.i .i32 least))) (.i .i32 r) (.i .i64 (i : Nat)) [] (S [] 0) =
        (match rloop m l i r with
        | none => some (.ret (.tup [.i .i32 0, .i .i64 0]) (S [] 0))
        | some r => some (.ret (.tup [.i .i32 (rfin n least r).1, .i .i64 (rfin n least r).2]) (S [] 0))) := by
  intro m
  induction m with
  | zero =>
    intro i fuel r hi hf
    cases fuel with
    | zero => omega
    | succ f =>
      have hd : decide ((i : Int) < (n : Int)) = false := decide_eq_false (by omega)
      rw [lp_s, show rloop 0 l i r = some r from rfl]
      have := rone_fin (I := I) (R := R) n least r
      generalize B_ronej2 I R (.i .i64 (n : Nat)) (.i .i32 least) = K2 at this ⊢
      generalize lp [6,8] f (B_ronel6 I R v (.i .i64 (n : Nat)) K2) = K
      unfold B_ronel6
      simp only [jn_d, bLss_i, hd]
      generalize B_ronej5 I R _ _ _ _ [] (S [] 0) = X
      rw [eCond_b, cond_false]
      exact this
  | succ m ih =>
    intro i fuel r hi hf
    cases fuel with
    | zero => omega
    | succ f =>
      have hd : decide ((i : Int) < (n : Int)) = true := decide_eq_true (by omega)
      have hw1 : IntKind.i64.wrap ((i : Nat) + 1 : Int) = ((i + 1 : Nat) : Int) := by rw [wrap64 (by omega) (by omega)]; omega
      have q : ∀ K : KP, (pIadrS (S [] 0) 1 v (.i .i64 (i : Nat)) fun p => pLoad (S [] 0) false 1 p K) = K (.i .u8 (getI l i)) := fun K => hld _ i .i64 i K rfl (by omega)
      rw [lp_s]
      have hrec := ih (i + 1) f (orI .i32 (shlI .i32 r 6) (IntKind.i32.wrap (andI .u8 (getI l i) 63))) (by omega) (by omega)
      generalize lp [6,8] f (B_ronel6 I R v (.i .i64 (n : Nat)) (B_ronej2 I R (.i .i64 (n : Nat)) (.i .i32 least))) = K at hrec ⊢
      unfold B_ronel6
      simp only [jn_d, bLss_i, hd]
      generalize B_ronej2 I R (.i .i64 (n : Nat)) (.i .i32 least) (.i .i32 r) [] (S [] 0) = X
      rw [eCond_b, cond_true]
      unfold B_ronej5
      simp only [jn_d]
      rw [q]
      simp only [pBin_and, bNeq_i]
      by_cases hc : andI .u8 (getI l i) 192 = 128
      · have e : rloop (m + 1) l i r = rloop m l (i + 1) (orI .i32 (shlI .i32 r 6) (IntKind.i32.wrap (andI .u8 (getI l i) 63))) := by rw [rloop, if_pos hc]
        rw [e, ← hrec, decide_eq_true hc, Bool.not_true]
        rw [eCond_b, cond_false]
        unfold B_ronej4
        rw [pBin_shl _ _ _ _ (show (0:Int) ≤ 6 by decide)]
        rw [q]
        simp only [pBin_and, pInt_i, pBin_or, B_ronej3, bAdd_i, hw1]
      · have e : rloop (m + 1) l i r = none := by rw [rloop, if_neg hc]
        rw [e, decide_eq_false hc, Bool.not_false]
        rw [eCond_b, cond_true]
        simp only [eLeave_nil]
theorem rone_mid {R : Rec} {v : AV} {l : List Int} (hv : (encI .u8).decS v = some l) (hld : ∀ (s : ES) (i : Nat) (kd : IntKind) (z : Int) (K : KP), z = (i : Nat) → i < l.length → (pIadrS s 1 v (.i kd z) fun p => pLoad s false 1 p K) = K (.i .u8 (getI l i))) (n : Nat) (r0 least : Int) (h1 : 1 ≤ n) (h4 : n ≤ 4) :
    B_ronej8 I R v (.i .i64 (n : Nat)) (.i .i32 r0) (.i .i32 least) [] (S [] 0) = some (.ret (.tup [.i .i32 (roneM n r0 least l).1, .i .i64 (roneM n r0 least l).2]) (S [] 0)) := by
  have hn0 : decide (((n : Nat) : Int) = 0) = false := decide_eq_false (by omega)
  unfold B_ronej8 roneM
  by_cases hlt : l.length < n
  · rw [if_pos hlt]
    have hd : decide ((l.length : Int) < (n : Int)) = true := decide_eq_true (by omega)
    simp only [jn_d, jv_d, eCond_b, eGuard_b, pPick_b, eLeave_nil, bEql_i, bLss_i, cond_true, cond_false, Bool.not_false, Bool.cond_self, (encI .u8).pLen_v hv, hn0, hd]
  · rw [if_neg hlt]
    have hd : decide ((l.length : Int) < (n : Int)) = false := decide_eq_false (by omega)
    simp only [jn_d, jv_d, eCond_b, eGuard_b, pPick_b, eLeave_nil, bEql_i, bLss_i, cond_true, cond_false, Bool.not_false, (encI .u8).pLen_v hv, hn0, hd, B_ronej7]
    have := rone_loop (I := I) (R := R) hld n least h4 (by omega) (n - 1) 1 30000 r0 (by omega) (by omega)
    refine Eq.trans this ?_
    cases rloop (n - 1) l 1 r0 <;> rfl
theorem rone_c (R : Rec) (as : List AV) (w : AV) (h : roneF as = some w) : Tot (fun v0 s0 => ∃ v', Inl Fla s0.st.1 v0 v' ∧ v' = w) (B_rone I R as (S [] 0)) := by
  unfold roneF at h
  split at h
  case h_2 => cases h
  rename_i v
  split at h
  case h_2 => cases h
  rename_i l hv
  split at h
  case isFalse => cases h
  rename_i hc
  obtain ⟨hb, hl, hne⟩ := hc
  cases h
  have hpos : 0 < l.length := List.length_pos_iff.2 hne
  have hld : ∀ (s : ES) (i : Nat) (kd : IntKind) (z : Int) (K : KP), z = (i : Nat) → i < l.length → (pIadrS s 1 v (.i kd z) fun p => pLoad s false 1 p K) = K (.i .u8 (getI l i)) := by
    intro s i kd z K hz hi
    rw [(encI .u8).iadr (kk := 1) hv rfl hz hi, (encI .u8).load_f (kk := 1) (o := 0) rfl (get_of hi) (by decide)]
    simp only [encI, List.getElem?_cons_zero, kont_v]
  have h0 : 0 ≤ getI l 0 ∧ getI l 0 ≤ 255 := bytesP_mem hb _ (List.mem_of_getElem? (get_of hpos))
  have hw : IntKind.i32.wrap (getI l 0) = getI l 0 := wrap32 (by omega) (by omega)
  have hmid := fun (n : Nat) (r0 least : Int) (h1 : 1 ≤ n) (h4 : n ≤ 4) => rone_mid (I := I) (R := R) hv hld n r0 least h1 h4
  have fin : B_rone I R [v] (S [] 0) = some (.ret (.tup [.i .i32 (roneV l).1, .i .i64 (roneV l).2]) (S [] 0)) := by
    unfold B_rone roneV
    rw [args1, hld _ 0 .i64 0 _ rfl hpos]
    by_cases c1 : getI l 0 < 128
    · rw [if_pos c1]
      simp only [jn_d, jv_d, eCond_b, eGuard_b, pPick_b, bLss_i, bGeq_i, pInt_i, cond_true, cond_false, hw, decide_eq_true c1]
    by_cases c2 : getI l 0 < 192
    · rw [if_neg c1, if_pos c2]
      have a1 : decide ((192 : Int) ≤ getI l 0) = false := decide_eq_false (by omega)
      have a2 : decide ((224 : Int) ≤ getI l 0) = false := decide_eq_false (by omega)
      have a3 : decide ((240 : Int) ≤ getI l 0) = false := decide_eq_false (by omega)
      simp only [jn_d, jv_d, eCond_b, eGuard_b, pPick_b, eLeave_nil, bEql_i, bLss_i, bGeq_i, pInt_i, cond_true, cond_false, Bool.not_false, Bool.cond_self, hw, decide_eq_false c1, a1, a2, a3, B_ronej8]
      rfl
    by_cases c3 : getI l 0 < 224
    · rw [if_neg c1, if_neg c2, if_pos c3]
      have a1 : decide ((192 : Int) ≤ getI l 0) = true := decide_eq_true (by omega)
      simp only [jn_d, jv_d, eCond_b, eGuard_b, pPick_b, bLss_i, bGeq_i, pInt_i, cond_true, cond_false, Bool.not_true, hw, decide_eq_false c1, decide_eq_true c3, a1, pBin_and]
      exact hmid 2 _ _ (by decide) (by decide)
    by_cases c4 : getI l 0 < 240
    · rw [if_neg c1, if_neg c2, if_neg c3, if_pos c4]
      have a1 : decide ((192 : Int) ≤ getI l 0) = true := decide_eq_true (by omega)
      have a2 : decide ((224 : Int) ≤ getI l 0) = true := decide_eq_true (by omega)
      simp only [jn_d, jv_d, eCond_b, eGuard_b, pPick_b, bLss_i, bGeq_i, pInt_i, cond_true, cond_false, Bool.not_true, Bool.cond_self, hw, decide_eq_false c1, decide_eq_false c3, decide_eq_true c4, a1, a2, pBin_and]
      exact hmid 3 _ _ (by decide) (by decide)
    have a1 : decide ((192 : Int) ≤ getI l 0) = true := decide_eq_true (by omega)
    have a2 : decide ((224 : Int) ≤ getI l 0) = true := decide_eq_true (by omega)
    have a3 : decide ((240 : Int) ≤ getI l 0) = true := decide_eq_true (by omega)
    by_cases c5 : getI l 0 < 248
    · rw [if_neg c1, if_neg c2, if_neg c3, if_neg c4, if_pos c5]
      simp only [jn_d, jv_d, eCond_b, eGuard_b, pPick_b, bLss_i, bGeq_i, pInt_i, cond_true, cond_false, Bool.not_true, Bool.cond_self, hw, decide_eq_false c1, decide_eq_false c3, decide_eq_false c4, decide_eq_true c5, a1, a2, a3, pBin_and]
      exact hmid 4 _ _ (by decide) (by decide)
    · rw [if_neg c1, if_neg c2, if_neg c3, if_neg c4, if_neg c5]
      simp only [jn_d, jv_d, eCond_b, eGuard_b, pPick_b, eLeave_nil, bEql_i, bLss_i, bGeq_i, pInt_i, cond_true, cond_false, Bool.not_true, Bool.cond_self, hw, decide_eq_false c1, decide_eq_false c3, decide_eq_false c4, decide_eq_false c5, a1, a2, a3, B_ronej8]
      rfl
  rw [fin]
  exact Tot.ret ⟨_, .clo _ (by simp only [Fla, FlaL, and_self]), rfl⟩
end
theorem orI_shl {r x : Int} (hr : 0 ≤ r ∧ r < 1048576) (hx : 0 ≤ x ∧ x < 64) : orI .i32 (shlI .i32 r 6) x = 64 * r + x := by
  obtain ⟨a, rfl⟩ : ∃ a : Nat, r = a := ⟨r.toNat, by omega⟩
  obtain ⟨b, rfl⟩ : ∃ b : Nat, x = b := ⟨x.toNat, by omega⟩
  have e1 : shlI .i32 (a : Int) 6 = ((a * 64 : Nat) : Int) := by
    show IntKind.i32.wrap ((a : Int) * 2 ^ 6) = _
    rw [wrap32 (by omega) (by omega)]; omega
  rw [e1]
  show IntKind.i32.wrap (((BitVec.ofInt 32 ((a * 64 : Nat) : Int) ||| BitVec.ofInt 32 ((b : Nat) : Int)).toNat : Nat) : Int) = _
  have e2 : (BitVec.ofInt 32 ((a * 64 : Nat) : Int) ||| BitVec.ofInt 32 ((b : Nat) : Int)).toNat = a * 64 + b := by
    rw [BitVec.toNat_or, BitVec.ofInt_natCast, BitVec.ofInt_natCast, BitVec.toNat_ofNat, BitVec.toNat_ofNat, Nat.mod_eq_of_lt (by omega), Nat.mod_eq_of_lt (by omega)]
    have := Nat.shiftLeft_add_eq_or_of_lt (i := 6) (b := b) (by omega) a
    rw [Nat.shiftLeft_eq, show a * 2 ^ 6 = a * 64 from rfl] at this
    omega
  rw [e2, wrap32 (by omega) (by omega)]
  omega
theorem cont_iff : ∀ n : Nat, n < 256 → (andI .u8 (n : Int) 192 = 128 ↔ (128 ≤ n ∧ n ≤ 191)) := by decide +kernel
theorem cont_val : ∀ n : Nat, n < 256 → 128 ≤ n → n ≤ 191 → IntKind.i32.wrap (andI .u8 (n : Int) 63) = (n : Int) - 128 := by decide +kernel
theorem head2 : ∀ n : Nat, n < 256 → 192 ≤ n → n < 224 → andI .i32 (n : Int) 31 = (n : Int) - 192 := by decide +kernel
theorem head3 : ∀ n : Nat, n < 256 → 224 ≤ n → n < 240 → andI .i32 (n : Int) 15 = (n : Int) - 224 := by decide +kernel
theorem head4 : ∀ n : Nat, n < 256 → 240 ≤ n → n < 248 → andI .i32 (n : Int) 7 = (n : Int) - 240 := by decide +kernel
theorem cont_iffI {b : Int} (h : 0 ≤ b ∧ b ≤ 255) : andI .u8 b 192 = 128 ↔ (128 ≤ b ∧ b ≤ 191) := by
  obtain ⟨n, rfl⟩ : ∃ n : Nat, b = n := ⟨b.toNat, by omega⟩
  have := cont_iff n (by omega)
  rw [this]; omega
theorem cont_valI {b : Int} (h : 128 ≤ b ∧ b ≤ 191) : IntKind.i32.wrap (andI .u8 b 63) = b - 128 := by
  obtain ⟨n, rfl⟩ : ∃ n : Nat, b = n := ⟨b.toNat, by omega⟩
  exact cont_val n (by omega) (by omega) (by omega)
end Hb
end

section
set_option linter.unusedVariables false
set_option linter.unusedSimpArgs false
set_option linter.constructorNameAsVariable false
set_option autoImplicit false
set_option linter.unusedVariables false
set_option linter.unusedSimpArgs false
set_option linter.constructorNameAsVariable false
namespace Hb
open Go
theorem rfin_2 (n : Nat) (least r : Int) : (rfin n least r).2 = if r < least ∨ 1114111 < r ∨ (55296 ≤ r ∧ r ≤ 57343) then 0 else (n : Int) := by unfold rfin; split <;> rfl
theorem rloop_no {l : List Int} {i m : Nat} {r : Int} (hb : 0 ≤ getI l i ∧ getI l i ≤ 255) (h : ¬ (128 ≤ getI l i ∧ getI l i ≤ 191)) : rloop (m + 1) l i r = none := by
  rw [rloop, if_neg (fun e => h ((cont_iffI hb).1 e))]
theorem rloop_ok {l : List Int} {i m : Nat} {r : Int} (hr : 0 ≤ r ∧ r < 1048576) (hb : 0 ≤ getI l i ∧ getI l i ≤ 255) (h : 128 ≤ getI l i ∧ getI l i ≤ 191) : rloop (m + 1) l i r = rloop m l (i + 1) (64 * r + (getI l i - 128)) := by
  rw [rloop, if_pos ((cont_iffI hb).2 h), cont_valI h, orI_shl hr (by omega)]
theorem rl_no1 {l : List Int} {i : Nat} {r : Int} (hb : 0 ≤ getI l i ∧ getI l i ≤ 255) (h : ¬ (128 ≤ getI l i ∧ getI l i ≤ 191)) : rloop 1 l i r = none := rloop_no (m := 0) hb h
theorem rl_no2 {l : List Int} {i : Nat} {r : Int} (hb : 0 ≤ getI l i ∧ getI l i ≤ 255) (h : ¬ (128 ≤ getI l i ∧ getI l i ≤ 191)) : rloop 2 l i r = none := rloop_no (m := 1) hb h
theorem rl_no3 {l : List Int} {i : Nat} {r : Int} (hb : 0 ≤ getI l i ∧ getI l i ≤ 255) (h : ¬ (128 ≤ getI l i ∧ getI l i ≤ 191)) : rloop 3 l i r = none := rloop_no (m := 2) hb h
theorem rl_ok1 {l : List Int} {i : Nat} {r : Int} (hr : 0 ≤ r ∧ r < 1048576) (hb : 0 ≤ getI l i ∧ getI l i ≤ 255) (h : 128 ≤ getI l i ∧ getI l i ≤ 191) : rloop 1 l i r = some (64 * r + (getI l i - 128)) := rloop_ok (m := 0) hr hb h
theorem rl_ok2 {l : List Int} {i : Nat} {r : Int} (hr : 0 ≤ r ∧ r < 1048576) (hb : 0 ≤ getI l i ∧ getI l i ≤ 255) (h : 128 ≤ getI l i ∧ getI l i ≤ 191) : rloop 2 l i r = rloop 1 l (i + 1) (64 * r + (getI l i - 128)) := rloop_ok (m := 1) hr hb h
theorem rl_ok3 {l : List Int} {i : Nat} {r : Int} (hr : 0 ≤ r ∧ r < 1048576) (hb : 0 ≤ getI l i ∧ getI l i ≤ 255) (h : 128 ≤ getI l i ∧ getI l i ≤ 191) : rloop 3 l i r = rloop 2 l (i + 1) (64 * r + (getI l i - 128)) := rloop_ok (m := 2) hr hb h
theorem decM_2 (p0 : Int) (sz : Nat) (lo hi : Int) (l : List Int) : (decM p0 sz lo hi l).2 = if l.length < sz then 1 else if getI l 1 < lo ∨ hi < getI l 1 then 1 else if sz ≤ 2 then 2 else if getI l 2 < 128 ∨ 191 < getI l 2 then 1 else if sz ≤ 3 then 3 else if getI l 3 < 128 ∨ 191 < getI l 3 then 1 else 4 := by
  unfold decM
  repeat (split; rfl)
  rfl
def or1 (n : Int) : Int := if n = 0 then 1 else n
theorem roneM_none {n : Nat} {r0 least : Int} {l : List Int} (h : l.length < n ∨ rloop (n - 1) l 1 r0 = none) : (roneM n r0 least l).2 = 0 := by
  unfold roneM
  by_cases hl : l.length < n
  · rw [if_pos hl]
  · rw [if_neg hl, h.resolve_left hl]
theorem roneM_some {n : Nat} {r0 least r : Int} {l : List Int} (hl : ¬ l.length < n) (h : rloop (n - 1) l 1 r0 = some r) : (roneM n r0 least l).2 = if r < least ∨ 1114111 < r ∨ (55296 ≤ r ∧ r ≤ 57343) then 0 else (n : Int) := by
  unfold roneM
  rw [if_neg hl, h]
  exact rfin_2 n least r
theorem size2 {l : List Int} {p : Int} (hp : 192 ≤ p ∧ p < 224) (by' : ∀ i, i < l.length → 0 ≤ getI l i ∧ getI l i ≤ 255) : or1 (roneM 2 (p - 192) 128 l).2 = if p < 194 then 1 else (decM p 2 128 191 l).2 := by
  rw [decM_2]
  by_cases h2 : l.length < 2
  · rw [roneM_none (.inl h2), if_pos h2]; split <;> rfl
  rw [if_neg h2]
  have b1 := by' 1 (by omega)
  by_cases g1 : 128 ≤ getI l 1 ∧ getI l 1 ≤ 191
  · rw [roneM_some h2 (rl_ok1 (by omega) b1 g1), if_neg (show ¬ (getI l 1 < 128 ∨ 191 < getI l 1) by omega)]
    have cond : (64 * (p - 192) + (getI l 1 - 128) < 128 ∨ 1114111 < 64 * (p - 192) + (getI l 1 - 128) ∨ 55296 ≤ 64 * (p - 192) + (getI l 1 - 128) ∧ 64 * (p - 192) + (getI l 1 - 128) ≤ 57343) ↔ p < 194 := by omega
    by_cases c4 : p < 194
    · rw [if_pos (cond.2 c4), if_pos c4]; rfl
    · rw [if_neg (fun h => c4 (cond.1 h)), if_neg c4]; rfl
  · rw [roneM_none (.inr (rl_no1 b1 g1)), if_pos (show getI l 1 < 128 ∨ 191 < getI l 1 by omega)]; split <;> rfl
theorem size3 {l : List Int} {p : Int} (hp : 224 ≤ p ∧ p < 240) (by' : ∀ i, i < l.length → 0 ≤ getI l i ∧ getI l i ≤ 255) : or1 (roneM 3 (p - 224) 2048 l).2 = (decM p 3 (loI p) (upI p) l).2 := by
  rw [decM_2]
  by_cases h2 : l.length < 3
  · rw [roneM_none (.inl h2), if_pos h2]; rfl
  rw [if_neg h2]
  have b1 := by' 1 (by omega)
  have b2 := by' 2 (by omega)
  have hlo : loI p = if p = 224 then 160 else 128 := by unfold loI; split; rfl; rw [if_neg (by omega)]
  have hup : upI p = if p = 237 then 159 else 191 := by unfold upI; split; rfl; rw [if_neg (by omega)]
  have hl1 : 128 ≤ loI p := by rw [hlo]; split <;> omega
  have hu1 : upI p ≤ 191 := by rw [hup]; split <;> omega
  by_cases g1 : 128 ≤ getI l 1 ∧ getI l 1 ≤ 191
  · by_cases g2 : 128 ≤ getI l 2 ∧ getI l 2 ≤ 191
    · have e := rl_ok2 (i := 1) (r := p - 224) (by omega) b1 g1
      rw [rl_ok1 (by omega) b2 g2] at e
      rw [roneM_some h2 e]
      by_cases bad : getI l 1 < loI p ∨ upI p < getI l 1
      · rw [if_pos bad, if_pos (by rw [hlo, hup] at bad; split at bad <;> split at bad <;> omega)]; rfl
      · rw [if_neg bad, if_neg (by rw [hlo, hup] at bad; split at bad <;> split at bad <;> omega), if_neg (by decide), if_neg (by omega), if_pos (by decide)]; rfl
    · have e := rl_ok2 (i := 1) (r := p - 224) (by omega) b1 g1
      rw [rl_no1 b2 g2] at e
      rw [roneM_none (.inr e), if_neg (show ¬ (3 : Nat) ≤ 2 by decide), if_pos (show getI l 2 < 128 ∨ 191 < getI l 2 by omega)]; split <;> rfl
  · rw [roneM_none (.inr (rl_no2 b1 g1)), if_pos (show getI l 1 < loI p ∨ upI p < getI l 1 by omega)]; rfl
theorem size4 {l : List Int} {p : Int} (hp : 240 ≤ p ∧ p < 248) (by' : ∀ i, i < l.length → 0 ≤ getI l i ∧ getI l i ≤ 255) : or1 (roneM 4 (p - 240) 65536 l).2 = if 244 < p then 1 else (decM p 4 (loI p) (upI p) l).2 := by
  rw [decM_2]
  by_cases h2 : l.length < 4
  · rw [roneM_none (.inl h2), if_pos h2]; split <;> rfl
  rw [if_neg h2]
  have b1 := by' 1 (by omega)
  have b2 := by' 2 (by omega)
  have b3 := by' 3 (by omega)
  have hlo : loI p = if p = 240 then 144 else 128 := by unfold loI; rw [if_neg (by omega)]
  have hup : upI p = if p = 244 then 143 else 191 := by unfold upI; rw [if_neg (by omega)]
  have hl1 : 128 ≤ loI p := by rw [hlo]; split <;> omega
  have hu1 : upI p ≤ 191 := by rw [hup]; split <;> omega
  by_cases g1 : 128 ≤ getI l 1 ∧ getI l 1 ≤ 191
  · by_cases g2 : 128 ≤ getI l 2 ∧ getI l 2 ≤ 191
    · by_cases g3 : 128 ≤ getI l 3 ∧ getI l 3 ≤ 191
      · have e := rl_ok3 (i := 1) (r := p - 240) (by omega) b1 g1
        rw [rl_ok2 (by omega) b2 g2, rl_ok1 (by omega) b3 g3] at e
        rw [roneM_some h2 e]
        by_cases c : 244 < p
        · rw [if_pos c, if_pos (by omega)]; rfl
        rw [if_neg c]
        by_cases bad : getI l 1 < loI p ∨ upI p < getI l 1
        · rw [if_pos bad, if_pos (by rw [hlo, hup] at bad; split at bad <;> split at bad <;> omega)]; rfl
        · rw [if_neg bad, if_neg (by rw [hlo, hup] at bad; split at bad <;> split at bad <;> omega), if_neg (by decide), if_neg (show ¬ (getI l 2 < 128 ∨ 191 < getI l 2) by omega), if_neg (by decide), if_neg (show ¬ (getI l 3 < 128 ∨ 191 < getI l 3) by omega)]; rfl
      · have e := rl_ok3 (i := 1) (r := p - 240) (by omega) b1 g1
        rw [rl_ok2 (by omega) b2 g2, rl_no1 b3 g3] at e
        rw [roneM_none (.inr e), if_neg (show ¬ (4 : Nat) ≤ 2 by decide), if_neg (show ¬ (4 : Nat) ≤ 3 by decide), if_neg (show ¬ (getI l 2 < 128 ∨ 191 < getI l 2) by omega), if_pos (show getI l 3 < 128 ∨ 191 < getI l 3 by omega)]
        repeat' split
        all_goals rfl
    · have e := rl_ok3 (i := 1) (r := p - 240) (by omega) b1 g1
      rw [rl_no2 b2 g2] at e
      rw [roneM_none (.inr e), if_neg (show ¬ (4 : Nat) ≤ 2 by decide), if_pos (show getI l 2 < 128 ∨ 191 < getI l 2 by omega)]
      repeat' split
      all_goals rfl
  · rw [roneM_none (.inr (rl_no3 b1 g1)), if_pos (show getI l 1 < loI p ∨ upI p < getI l 1 by omega)]
    split <;> rfl
theorem size_eq {l : List Int} (hb : bytesP l = true) (hne : l ≠ []) : or1 (roneV l).2 = (decV l).2 := by
  have hpos : 0 < l.length := List.length_pos_iff.2 hne
  have by' : ∀ i, i < l.length → 0 ≤ getI l i ∧ getI l i ≤ 255 := fun i hi => bytesP_mem hb _ (List.mem_of_getElem? (get_of hi))
  have hp := by' 0 hpos
  have hd : decV l = if getI l 0 < 128 then (getI l 0, 1) else if getI l 0 < 194 ∨ 244 < getI l 0 then (65533, 1) else decM (getI l 0) (szI (getI l 0)) (loI (getI l 0)) (upI (getI l 0)) l := by
    cases l with
    | nil => exact absurd rfl hne
    | cons p t => rfl
  have hcast : ∀ {p : Int}, 0 ≤ p ∧ p ≤ 255 → ∃ n : Nat, p = n ∧ n < 256 := fun {p} h => ⟨p.toNat, by omega, by omega⟩
  rw [hd]
  unfold roneV
  generalize hpe : getI l 0 = p at hp ⊢
  by_cases c1 : p < 128
  · rw [if_pos c1, if_pos c1]; rfl
  rw [if_neg c1, if_neg c1]
  by_cases c2 : p < 192
  · rw [if_pos c2, if_pos (show p < 194 ∨ 244 < p by omega)]; rfl
  rw [if_neg c2]
  by_cases c3 : p < 224
  · have e0 : andI .i32 p 31 = p - 192 := by obtain ⟨n, rfl, hn⟩ := hcast hp; exact head2 n hn (by omega) (by omega)
    have s2 : szI p = 2 := by unfold szI; rw [if_pos c3]
    have s3 : loI p = 128 := by unfold loI; rw [if_neg (by omega), if_neg (by omega)]
    have s4 : upI p = 191 := by unfold upI; rw [if_neg (by omega), if_neg (by omega)]
    rw [if_pos c3, e0, s2, s3, s4, size2 ⟨by omega, c3⟩ by']
    by_cases c4 : p < 194
    · rw [if_pos c4, if_pos (.inl c4)]
    · rw [if_neg c4, if_neg (show ¬ (p < 194 ∨ 244 < p) by omega)]
  rw [if_neg c3]
  by_cases c5 : p < 240
  · have e0 : andI .i32 p 15 = p - 224 := by obtain ⟨n, rfl, hn⟩ := hcast hp; exact head3 n hn (by omega) (by omega)
    have s2 : szI p = 3 := by unfold szI; rw [if_neg c3, if_pos c5]
    rw [if_pos c5, e0, s2, if_neg (show ¬ (p < 194 ∨ 244 < p) by omega)]
    exact size3 ⟨by omega, c5⟩ by'
  rw [if_neg c5]
  by_cases c6 : p < 248
  · have e0 : andI .i32 p 7 = p - 240 := by obtain ⟨n, rfl, hn⟩ := hcast hp; exact head4 n hn (by omega) (by omega)
    have s2 : szI p = 4 := by unfold szI; rw [if_neg c3, if_neg c5]
    rw [if_pos c6, e0, s2, size4 ⟨by omega, c6⟩ by']
    by_cases c7 : 244 < p
    · rw [if_pos c7, if_pos (.inr c7)]
    · rw [if_neg c7, if_neg (show ¬ (p < 194 ∨ 244 < p) by omega)]
  · rw [if_neg c6, if_pos (show p < 194 ∨ 244 < p by omega)]; rfl
end Hb
end

section
set_option linter.unusedVariables false
set_option linter.unusedSimpArgs false
set_option linter.constructorNameAsVariable false
set_option autoImplicit false
set_option linter.unusedVariables false
set_option linter.unusedSimpArgs false
set_option linter.constructorNameAsVariable false
namespace Hb
open Go
def rOne (l : List Int) : Int := if (roneV l).2 = 0 then 65533 else (roneV l).1
def rAll : Nat → List Int → Nat → List (Int × Int)
  | 0, _, _ => []
  | f + 1, l, i => if i < l.length then (rOne (l.drop i), (i : Int)) :: rAll f l (i + (or1 (roneV (l.drop i)).2).toNat) else []
def rOk : Nat → List Int → Nat → Bool → Bool
  | 0, _, _, b => b
  | f + 1, l, i, b => if i < l.length then rOk f l (i + (or1 (roneV (l.drop i)).2).toNat) (if (roneV (l.drop i)).2 = 0 then false else b) else b
theorem bytesP_drop {l : List Int} (h : bytesP l = true) (i : Nat) : bytesP (l.drop i) = true := by
  rw [bytesP, List.all_eq_true] at h ⊢
  exact fun x hx => h x (List.mem_of_mem_drop hx)
theorem drop_ne {l : List Int} {i : Nat} (h : i < l.length) : l.drop i ≠ [] := fun e => by
  have := congrArg List.length e
  rw [List.length_drop] at this
  simp only [List.length_nil] at this
  omega
theorem rAll_at {l : List Int} (hb : bytesP l = true) : ∀ (f i : Nat), (rAll f l i).map (·.2) = (decAll f l i).map (·.2)
  | 0, _ => rfl
  | f + 1, i => by
    unfold rAll decAll
    by_cases h : i < l.length
    · rw [if_pos h, if_pos h]
      simp only [List.map_cons]
      rw [size_eq (bytesP_drop hb i) (drop_ne h), rAll_at hb f]
    · rw [if_neg h, if_neg h]
def rRunesF : List AV → Option AV
  | [v] => match (encI .u8).decS v with
    | some l => if bytesP l = true ∧ l.length < 20000 then some (.tup [rowC .i32 ((rAll l.length l 0).map (·.1)), rowC .i64 ((rAll l.length l 0).map (·.2)), .b (rOk l.length l 0 true)]) else none
    | none => none
  | _ => none
def Rows2 (I : Ids) (a : List (Int × Int)) (w1 w2 : AV) (l : List (Option Blk)) : Prop :=
  RowAt .i32 (I.t 1) (a.map (·.1)) w1 l ∧ RowAt .i64 (I.t 10) (a.map (·.2)) w2 l ∧ (∀ r, ¬ Off w1 r → Off w2 r) ∧ (a = [] → w1 = .ns ∧ w2 = .ns)
section
variable {I : Ids}
theorem rows2_app {a : List (Int × Int)} {w1 w2 : AV} {l : List (Option Blk)} {nx : Nat} (h : Rows2 I a w1 w2 l) (ha : a.length < 100000) (hl : l.length < 800000000) (c i : Int) :
    ∃ v1 v2 l1 nx1, Rows2 I (a ++ [(c, i)]) v1 v2 l1 ∧ l1.length ≤ l.length + 4 ∧ ∀ C : AV → AV → ES → Res,
      (pLit (S l nx) (I.t 1) 1 1 [.i .i32 0] [(0, 1, .i .i32 c)] fun x s => pAppend s (I.t 1) 1 w1 x fun y s => pLit s (I.t 10) 1 1 [.i .i64 0] [(0, 1, .i .i64 i)] fun x s => pAppend s (I.t 10) 1 w2 x fun z s => C y z s) = C v1 v2 (S l1 nx1) := by
  obtain ⟨r1, r2, ap, _⟩ := h
  have apC : ∀ r, ¬ Off w2 r → Off w1 r := fun r hr => Classical.byContradiction fun hn => hr (ap r hn)
  obtain ⟨v1, l1, n1, k1, k2, k3, k4⟩ := row_appG (nx := nx) r1 (by simpa using ha) (by omega) c
  have r2' : RowAt .i64 (I.t 10) (a.map (·.2)) w2 l1 := r2.keep fun r hr => k2.2.2 r (r2.lt r hr) (apC r hr)
  obtain ⟨v2, l2, n2, j1, j2, j3, j4⟩ := row_appG (nx := n1) r2' (by simpa using ha) (by have := k2.2.1; omega) i
  have o1 : ∀ r, ¬ Off v1 r → Off w2 r := fun r hr => by
    rcases Nat.lt_or_ge r l.length with hlt | hge
    · exact ap r fun ho => hr (k3 r hlt ho)
    · exact Classical.byContradiction fun hn => by have := r2.lt r hn; omega
  refine ⟨v1, v2, l2, n2, ⟨?_, ?_, fun r hr => j3 r (k1.lt r hr) (o1 r hr), fun e => by simp at e⟩, by have := k2.2.1; have := j2.2.1; omega, fun C => ?_⟩
  · rw [List.map_append]; exact k1.keep fun r hr => j2.2.2 r (k1.lt r hr) (o1 r hr)
  · rw [List.map_append]; exact j1
  · rw [k4, j4]
theorem rRunes_loop {R : Rec} {v : AV} {L : List Int} (hv : (encI .u8).decS v = some L) (hb : bytesP L = true) (hL : L.length < 20000) (hone : ∀ args s, R.f (I.f 38) args s = flatOv roneF R args s) {K9 : Cur [5,6,7]} :
    ∀ (m i fuel nx : Nat) (a : List (Int × Int)) (w1 w2 : AV) (ok : Bool) (l : List (Option Blk)), L.length ≤ i + m → i ≤ L.length → m < fuel → a.length ≤ i → Rows2 I a w1 w2 l → l.length ≤ 4 * a.length →
      ∃ v1 v2 l1 nx1, Rows2 I (a ++ rAll m L i) v1 v2 l1 ∧ lp [5,6,7,8] fuel (B_rRunesl4 I R v K9) w1 w2 (.b ok) (.i .i64 (i : Nat)) [] (S l nx) = K9 v1 v2 (.b (rOk m L i ok)) [] (S l1 nx1) := by
  have stop : ∀ (m i nx : Nat) (a : List (Int × Int)) (w1 w2 : AV) (ok : Bool) (l : List (Option Blk)) (K : Cur [5,6,7,8]), ¬ i < L.length → Rows2 I a w1 w2 l →
      ∃ v1 v2 l1 nx1, Rows2 I (a ++ rAll m L i) v1 v2 l1 ∧ B_rRunesl4 I R v K9 K w1 w2 (.b ok) (.i .i64 (i : Nat)) [] (S l nx) = K9 v1 v2 (.b (rOk m L i ok)) [] (S l1 nx1) := by
    intro m i nx a w1 w2 ok l K hi h
    have e1 : rAll m L i = [] := by cases m with
      | zero => rfl
      | succ m => unfold rAll; rw [if_neg hi]
    have e2 : rOk m L i ok = ok := by cases m with
      | zero => rfl
      | succ m => unfold rOk; rw [if_neg hi]
    have hd : decide ((i : Int) < (L.length : Int)) = false := decide_eq_false (by omega)
    refine ⟨w1, w2, l, nx, by rw [e1, List.append_nil]; exact h, ?_⟩
    rw [e2]
    unfold B_rRunesl4
    simp only [jn_d, (encI .u8).pLen_v hv, bLss_i, hd]
    generalize B_rRunesj3 I R _ _ _ _ _ _ [] (S l nx) = X
    rw [eCond_b, cond_false]
  intro m
  induction m with
  | zero =>
    intro i fuel nx a w1 w2 ok l h1 h2 h3 h4 h h5
    cases fuel with
    | zero => omega
    | succ f =>
      rw [lp_s]
      exact stop 0 i nx a w1 w2 ok l _ (by omega) h
  | succ m ih =>
    intro i fuel nx a w1 w2 ok l h1 h2 h3 h4 h h5
    cases fuel with
    | zero => omega
    | succ f =>
      rw [lp_s]
      by_cases hi : i < L.length
      · have hd : decide ((i : Int) < (L.length : Int)) = true := decide_eq_true (by omega)
        have hne := drop_ne hi
        obtain ⟨z1, z2⟩ := decV_size hne
        rw [← size_eq (bytesP_drop hb i) hne] at z1 z2
        rw [List.length_drop] at z2
        obtain ⟨n, hn⟩ : ∃ n : Nat, or1 (roneV (L.drop i)).2 = (n : Int) := ⟨(or1 (roneV (L.drop i)).2).toNat, by omega⟩
        have hvs : v = .sl 1 L.length (L.map (.i .u8)) := by
          rcases (encI .u8).decS_inv hv with ⟨e, _⟩ | e
          · rw [e] at hi; simp at hi
          · rw [e, Enc.sl, encI_L]; rfl
        have hsl : ((L.map (AV.i .u8)).drop (i * 1)).take ((L.length - i) * 1) = (L.drop i).map (.i .u8) := by
          rw [Nat.mul_one, Nat.mul_one, ← List.map_drop, ← List.map_take, List.take_of_length_le (by simp)]
        have hlo : ∀ k : KP, pLsl (S l nx) 1 v (some (.i .i64 (i : Nat))) none none k = k (.sl 1 (L.length - i) ((L.drop i).map (.i .u8))) := fun k => by
          rw [hvs, pLsl_slLo rfl (by omega), hsl]
        have hcall : ∀ s, R.f (I.f 38) [.sl 1 (L.length - i) ((L.drop i).map (.i .u8))] s = some (.ret (.tup [.i .i32 (roneV (L.drop i)).1, .i .i64 (roneV (L.drop i)).2]) s) := by
          intro s
          have hds := decI_sl .u8 (L.drop i)
          rw [List.length_drop] at hds
          rw [hone, flatOv_c (v := .tup [.i .i32 (roneV (L.drop i)).1, .i .i64 (roneV (L.drop i)).2]) (by simp only [CloL, and_true]; exact (encI .u8).clo_of hds) (by simp only [roneF, hds]; rw [if_pos ⟨bytesP_drop hb i, by rw [List.length_drop]; omega, hne⟩])]
        have hw : IntKind.i64.wrap ((i : Nat) + (n : Int)) = ((i + n : Nat) : Int) := by rw [wrap64 (by omega) (by omega)]; omega
        obtain ⟨u1, u2, l1, n1, g1, g2, g3⟩ := rows2_app (nx := nx) h (by omega) (by omega) (rOne (L.drop i)) (i : Int)
        have e1 : rAll (m + 1) L i = (rOne (L.drop i), (i : Int)) :: rAll m L (i + n) := by rw [rAll, if_pos hi, hn]; rfl
        have e2 : rOk (m + 1) L i ok = rOk m L (i + n) (if (roneV (L.drop i)).2 = 0 then false else ok) := by rw [rOk, if_pos hi, hn]; rfl
        obtain ⟨v1, v2, l2, n2, q1, q2⟩ := ih (i + n) f n1 (a ++ [(rOne (L.drop i), (i : Int))]) u1 u2 (if (roneV (L.drop i)).2 = 0 then false else ok) l1 (by omega) (by omega) (by omega) (by simp; omega) g1 (by simp; omega)
        refine ⟨v1, v2, l2, n2, by rw [e1]; rw [List.append_assoc] at q1; exact q1, ?_⟩
        rw [e2, ← q2]
        generalize lp [5,6,7,8] f (B_rRunesl4 I R v K9) = K
        unfold B_rRunesl4
        simp only [jn_d, (encI .u8).pLen_v hv, bLss_i, hd]
        generalize K9 w1 w2 (.b ok) [] (S l nx) = X
        rw [eCond_b, cond_true]
        unfold B_rRunesj3
        rw [hlo, hcall]
        simp only [callK_ret]
        rw [pExt_t rfl, pExt_t rfl]
        simp only [jn_d, bEql_i, eCond_b]
        by_cases h0 : (roneV (L.drop i)).2 = 0
        · have hn1 : n = 1 := by have : or1 (roneV (L.drop i)).2 = 1 := by unfold or1; rw [if_pos h0]
                                 omega
          have hr : rOne (L.drop i) = 65533 := by unfold rOne; rw [if_pos h0]
          rw [decide_eq_true h0, cond_true, if_pos h0]
          unfold B_rRunesj2
          rw [← hr, g3]
          subst hn1
          simp only [bAdd_i]
          rw [show IntKind.i64.wrap ((i : Nat) + (1 : Int)) = ((i + 1 : Nat) : Int) from hw]
        · have hn1 : (roneV (L.drop i)).2 = (n : Int) := by
            have : or1 (roneV (L.drop i)).2 = (roneV (L.drop i)).2 := by unfold or1; rw [if_neg h0]
            omega
          have hr : rOne (L.drop i) = (roneV (L.drop i)).1 := by unfold rOne; rw [if_neg h0]
          rw [decide_eq_false h0, cond_false, if_neg h0]
          unfold B_rRunesj2
          rw [← hr, g3]
          simp only [bAdd_i, hn1, hw]
      · exact stop (m + 1) i nx a w1 w2 ok l _ hi h
theorem rRunes_c {R : Rec} (hone : ∀ args s, R.f (I.f 38) args s = flatOv roneF R args s) (as : List AV) (w : AV) (h : rRunesF as = some w) (hcl : CloL as) : Tot (fun v0 s0 => ∃ v', Inl Clo s0.st.1 v0 v' ∧ v' = w) (B_rRunes I R as (S [] 0)) := by
  unfold rRunesF at h
  split at h
  case h_2 => cases h
  rename_i v
  split at h
  case h_2 => cases h
  rename_i L hv
  split at h
  case isFalse => cases h
  rename_i hc
  obtain ⟨hb, hL⟩ := hc
  cases h
  obtain ⟨v1, v2, l1, n1, ⟨q1, q2, q3, q4⟩, hrun⟩ := rRunes_loop (I := I) (R := R) (K9 := B_rRunesj1 I R) hv hb hL hone L.length 0 30000 0 [] .ns .ns true [] (by omega) (by omega) (by omega) (by simp) ⟨Or.inl ⟨rfl, rfl⟩, Or.inl ⟨rfl, rfl⟩, fun _ _ => Off.ns, fun _ => ⟨rfl, rfl⟩⟩ (by simp)
  rw [List.nil_append] at q1 q2 q4
  have hmain : B_rRunes I R [v] (S [] 0) = some (.ret (.tup [v1, v2, .b (rOk L.length L 0 true)]) (S l1 n1)) := by
    unfold B_rRunes
    rw [args1]
    simp only [jn_d]
    refine Eq.trans hrun ?_
    unfold B_rRunesj1
    simp only [eLeave_nil]
  rw [hmain]
  exact Tot.ret ⟨_, .tup _ _ (.cons _ _ _ _ (inlN_inl 4 (q1.inl (nx := n1) fun e => (q4 (List.map_eq_nil_iff.1 e)).1)) (.cons _ _ _ _ (inlN_inl 4 (q2.inl (nx := n1) fun e => (q4 (List.map_eq_nil_iff.1 e)).2)) (.cons _ _ _ _ (.clo _ (by simp only [Clo])) .nil))), rfl⟩
def atV (l : List Int) (size i : Int) : Int := if i < 0 ∨ (l.length : Int) < i then -1 else if i = l.length then size else getI l i.toNat
def atF : List AV → Option AV
  | [v, .i .i64 size, .i .i64 i] => match encI64.decS v with
    | some l => if l.length < 100000 then some (.i .i64 (atV l size i)) else none
    | none => none
  | _ => none
theorem at_c (R : Rec) (as : List AV) (w : AV) (h : atF as = some w) : Tot (fun v0 s0 => ∃ v', Inl Fla s0.st.1 v0 v' ∧ v' = w) (B_At I R as (S [] 0)) := by
  unfold atF at h
  split at h
  case h_2 => cases h
  rename_i v size i
  split at h
  case h_2 => cases h
  rename_i l hv
  split at h
  case isFalse => cases h
  cases h
  have fin : B_At I R [v, .i .i64 size, .i .i64 i] (S [] 0) = some (.ret (.i .i64 (atV l size i)) (S [] 0)) := by
    unfold B_At atV
    by_cases c1 : i < 0
    · rw [if_pos (.inl c1)]
      simp only [args3, jn_d, jv_d, eCond_b, eGuard_b, pPick_b, bLss_i, cond_true, cond_false, Bool.not_true, Bool.cond_self, decide_eq_true c1]
    by_cases c2 : (l.length : Int) < i
    · rw [if_pos (.inr c2)]
      simp only [args3, jn_d, jv_d, eCond_b, eGuard_b, pPick_b, bEql_i, bLss_i, bGtr_i, cond_true, cond_false, Bool.not_false, Bool.cond_self, decide_eq_false c1, decide_eq_true c2, encI64.pLen_v hv]
    rw [if_neg (by omega)]
    by_cases c3 : i = l.length
    · rw [if_pos c3]
      simp only [args3, jn_d, jv_d, eCond_b, eGuard_b, pPick_b, bEql_i, bLss_i, bGtr_i, cond_true, cond_false, Bool.not_false, decide_eq_false c1, decide_eq_false c2, decide_eq_true c3, encI64.pLen_v hv]
    · rw [if_neg c3]
      simp only [args3, jn_d, jv_d, eCond_b, eGuard_b, pPick_b, bEql_i, bLss_i, bGtr_i, cond_true, cond_false, Bool.not_false, decide_eq_false c1, decide_eq_false c2, decide_eq_false c3, encI64.pLen_v hv]
      unfold B_Atj1
      rw [encI64.iadr (kk := 1) (i := i.toNat) hv rfl (by omega) (by omega), encI64.load_f (kk := 1) (o := 0) rfl (get_of (by omega)) (by decide)]
      simp only [encI, List.getElem?_cons_zero, kont_v, eLeave_nil]
  rw [fin]
  exact Tot.ret ⟨_, .clo _ (by simp only [Fla]), rfl⟩
end
end Hb
end
