/- A layer for programs of small data: values, stores, code, and an evaluator of code that the kernel runs; part 13. -/
import Derived.Test.YtmjcgaaeejpkgaaGreatDoorH12

section
set_option linter.unusedVariables false
set_option linter.unusedSimpArgs false
set_option linter.constructorNameAsVariable false
set_option autoImplicit false
set_option linter.unusedVariables false
set_option linter.unusedSimpArgs false
set_option linter.constructorNameAsVariable false
namespace Hb
open Go
theorem S_at {l : List (Option Blk)} {nx r st : Nat} {b : Blk} (h : l[r]? = some (some b)) (hb : b.st = st) : atR (S l nx) r st = some b := by
  rw [atR_eq]
  exact ES.at_of (show r < l.length from (List.getElem?_eq_some_iff.1 h).1) (S_get h) hb
theorem inlN_gr {f : Nat} {l : List (Option Blk)} {nx r st st' T fz n k : Nat} {cs : List AV} (h : l[r]? = some (some (.cells st' false T fz cs))) (hst : st' = st) (hc : CloL cs) (hle : n * k ≤ cs.length) :
    inlN (f + 2) (S l nx) (.gr r st 0 n k) = some (.sl k n (cs.take (n * k))) := by
  rw [inlN_s]
  show inl1 (inlN (f + 1) (S l nx)) (S l nx) (.gr r st 0 n k) = _
  unfold inl1
  simp only
  rw [S_at h hst]
  simp only [lenR_eq, takeR_eq, dropR_eq]
  have e : Nat.mul (Nat.add 0 n) k = n * k := by show (0 + n) * k = n * k; rw [Nat.zero_add]
  have e2 : Nat.mul 0 k = 0 := Nat.zero_mul _
  have e3 : Nat.mul n k = n * k := rfl
  have ht : CloL (cs.take (n * k)) := by
    rw [CloL_iff] at hc ⊢
    exact fun x hx => hc x (List.mem_of_mem_take hx)
  rw [e, e2, e3, Nat.ble_eq_true_of_le hle, List.drop_zero, mapO_clo ht]
  rfl
theorem inlN_p {f : Nat} {l : List (Option Blk)} {nx r st st' T fz k i o : Nat} {cs cs' : List AV} (h : l[r]? = some (some (.cells st' false T fz cs))) (hst : st' = st) (hc : mapO (inlN f (S l nx)) cs = some cs') :
    inlN (f + 1) (S l nx) (.p r st k i o) = some (.pe cs' k i o) := by
  rw [inlN_s]
  show inl1 (inlN f (S l nx)) (S l nx) (.p r st k i o) = _
  unfold inl1
  simp only
  rw [S_at h hst]
  simp only [hc]
theorem inlN_fn {f : Nat} {s : ES} {g : Fn} {a b a' b' : List AV} (hn : cloB (.fn g a b) = false) (ha : mapO (inlN f s) a = some a') (hb : mapO (inlN f s) b = some b') : inlN (f + 1) s (.fn g a b) = some (.fn g a' b') := by
  rw [inlN_s, hn]
  show inl1 (inlN f s) s (.fn g a b) = _
  unfold inl1
  simp only [ha, hb]
theorem mapO_c {f : Nat} {s : ES} {x x' : AV} {l l' : List AV} (hx : inlN f s x = some x') (hl : mapO (inlN f s) l = some l') : mapO (inlN f s) (x :: l) = some (x' :: l') := by
  rw [mapO_cons, hx, hl]
inductive Side where
  | set (l : List (Int × Int))
  | none
def encSide : Enc Side where
  k := 5
  enc a := match a with
    | .set l => [.i .i64 1, .i .i64 0, encRange.sl l, .s [], .ns]
    | .none => [.i .i64 3, .i .i64 0, .ns, .s [], .ns]
  dec cs := match cs with
    | [.i .i64 1, .i .i64 0, .sl 2 n cs, .s [], .ns] => (encRange.decL n cs).map .set
    | [.i .i64 3, .i .i64 0, .ns, .s [], .ns] => some .none
    | _ => Option.none
  pos := by decide
  len a := by cases a <;> rfl
  ok a := by
    cases a with
    | set l => show (encRange.decL l.length (encRange.encL l)).map _ = _; rw [encRange.decL_enc]; rfl
    | none => rfl
  inv cs a h := by
    split at h
    · rename_i n cs
      cases hd : encRange.decL n cs with
      | none => rw [hd] at h; cases h
      | some l =>
        rw [hd] at h
        cases h
        obtain ⟨e1, e2⟩ := encRange.decL_inv hd
        subst e1 e2
        rfl
    · cases h; rfl
    · cases h
  clo a := by
    cases a with
    | set l => simp only [CloL, Clo, and_self, and_true, true_and]; exact encRange.clo_sl l
    | none => simp only [CloL, Clo, and_self]
def indV (n i : Nat) : List Bool := (List.replicate (n + 1) false).set i true
def leadsV (e : Side) (l : List Int) (i : Nat) (back : Bool) : List Nat := match e with
  | .none => trues (indV l.length i) 0
  | .set s => trues (oneV l back s (indV l.length i)) 0
def walkV (e : Side) (l : List Int) (back : Bool) (bs : List Bool) : List Bool := match e with
  | .none => bs
  | .set s => oneV l back s bs
def sideOk : Side → Bool
  | .set s => decide (s.length < 30000)
  | .none => true
section
variable (I : Ids)
theorem oneV_len (l : List Int) (back : Bool) (set : List (Int × Int)) (bs : List Bool) : (oneV l back set bs).length = l.length + 1 := by
  unfold oneV
  have hfl : ∀ (a : List Nat) (o : List Bool), (a.foldl (markV l back set) o).length = o.length := by
    intro a
    induction a with
    | nil => intro o; rfl
    | cons z a ih => intro o; rw [List.foldl_cons, ih, markV_len]
  rw [hfl]; simp
theorem walk_run {R : Rec} (hone : ∀ args s, R.f (I.f 10) args s = rowOv (oneF I) R args s) {e : Side} {t : AV} {l : List Int} {back : Bool} {σ : List (Option Blk)} {nx r st : Nat} {bs : List Bool} (ht : encR32.decS t = some l) (hl : l.length < 20000) (he : sideOk e = true) (hbs : bs.length = l.length + 1)
    (hr : σ[r]? = some (some (.cells st false (I.t 3) 0 (bs.map .b)))) (hσ : σ.length < 1000) :
    ∃ r' st' σ' nx', B_mwalk I R [.agg [t, .b back], .agg (encSide.enc e), .gr r st 0 (l.length + 1) 1] (S σ nx) = some (.ret (.gr r' st' 0 (l.length + 1) 1) (S σ' nx')) ∧ σ'.length ≤ σ.length + 3 ∧ (∀ q, q < σ.length → σ'[q]? = σ[q]?) ∧
      σ'[r']? = some (some (.cells st' false (I.t 3) 0 ((walkV e l back bs).map .b))) := by
  have hc : Clo t := encR32.clo_of ht
  have hrl : r < σ.length := (List.getElem?_eq_some_iff.1 hr).1
  let σ1 : List (Option Blk) := σ ++ [some (.cells nx false (I.t 2) 0 [t, .b back]), some (.cells (nx + 1) false (I.t 6) 0 (encSide.enc e))]
  have g0 : σ1[σ.length]? = some (some (.cells nx false (I.t 2) 0 [t, .b back])) := by simp [σ1]
  have g1 : σ1[σ.length + 1]? = some (some (.cells (nx + 1) false (I.t 6) 0 (encSide.enc e))) := by
    show (σ ++ _)[σ.length + 1]? = _
    rw [List.getElem?_append_right (by omega)]; simp
  have g2 : σ1[r]? = some (some (.cells st false (I.t 3) 0 (bs.map .b))) := by
    show (σ ++ _)[r]? = _
    rw [List.getElem?_append_left hrl, hr]
  have hl1 : σ1.length = σ.length + 2 := by simp [σ1]
  have start : ∀ C : AV → AV → ES → Res, (pBox (S σ nx) (I.t 2) (.agg [t, .b back]) fun v5 s6 => pBox s6 (I.t 6) (.agg (encSide.enc e)) fun v7 s8 => C v5 v7 s8) = C (.p σ.length nx 2 0 0) (.p (σ.length + 1) (nx + 1) 5 0 0) (S σ1 (nx + 1 + 1)) := by
    intro C
    rw [pBox_S (AV.cells_agg _) (by omega), pBox_S (AV.cells_agg _) (by simp; omega)]
    simp only [List.length_append, List.length_cons, List.length_nil, encSide.len, List.append_assoc, List.cons_append, List.nil_append, Nat.zero_add]
    rfl
  unfold B_mwalk
  rw [args3, start]
  simp only [jn_d]
  rw [pFadr_p g1 rfl, pLoad_Sf g1 rfl (by decide) (by rw [encSide.len]; decide)]
  cases e with
  | none =>
    refine ⟨r, st, σ1, nx + 1 + 1, ?_, by omega, fun q hq => ?_, g2⟩
    · simp [encSide, args0, args1, args2, args3, args4, jn_d, jv_d, jr_d, callK_ret, eCond_b, eGuard_b, pPick_b, pUn_not, eLeave_nil, bAdd_i, bSub_i, bMul_i, bQuo_i, bRem_i, bEql_i, bNeq_i, bLss_i, bLeq_i, bGtr_i, bGeq_i, bEql_s, bNeq_s, bLss_s, pInt_i, pLen_s, pLen_sl, pLen_gr, pLen_ns, pLen_sz, pBuild_d, fillK_nil, cond_true, cond_false, Bool.not_true, Bool.not_false, Bool.cond_self, List.length_nil, List.length_cons, List.nil_append, List.cons_append, List.append_nil, List.append_assoc, List.length_append, List.getElem?_cons_zero, List.getElem?_cons_succ, List.drop_succ_cons, List.drop_zero, List.drop_nil, List.take_succ_cons, List.take_zero, List.take_nil, List.set_cons_zero, List.set_cons_succ, Nat.zero_add, Nat.add_zero, Nat.zero_mul, Nat.mul_one, Nat.one_mul, Nat.reduceAdd, Nat.reduceMul, Nat.reduceSub, kont_v, AV.cells_i, AV.cells_s, AV.cells_b, AV.cells_agg, AV.cells_sl]
    · show (σ ++ _)[q]? = _
      rw [List.getElem?_append_left hq]
  | set s =>
    have hs : s.length < 30000 := by simpa [sideOk] using he
    have hone1 : R.f (I.f 10) [.agg [t, .b back], encRange.sl s, .gr r st 0 (l.length + 1) 1] (S σ1 (nx + 1 + 1)) = some (.ret (.gr σ1.length (nx + 1 + 1) 0 (l.length + 1) 1) (S (σ1 ++ [some (.cells (nx + 1 + 1) false (I.t 3) 0 ((oneV l back s bs).map .b))]) (nx + 1 + 1 + 1))) := by
      rw [hone]
      refine rowOv_S (as := [.agg [t, .b back], encRange.sl s, .sl 1 (l.length + 1) (bs.map .b)]) ?_ ?_ (by omega) (by omega)
      · refine mapO_c (inlN_clo (by simp only [Clo, CloL, and_self, and_true]; exact hc)) (mapO_c (inlN_clo (encRange.clo_sl s)) (mapO_c ?_ rfl))
        rw [inlN_gr g2 rfl (by rw [CloL_iff]; intro x hx; obtain ⟨b, _, rfl⟩ := List.mem_map.1 hx; simp only [Clo]) (by simp; omega)]
        rw [List.take_of_length_le (by simp; omega)]
      · have hb : encB.decS (.sl 1 (l.length + 1) (bs.map .b)) = some bs := by
          have := encB.decS_sl bs
          rw [Enc.sl, hbs] at this
          have e2 : encB.encL bs = bs.map .b := by
            simp only [Enc.encL]
            rw [← List.flatMap_singleton' (bs.map AV.b)]
            simp [List.flatMap_map, encB]
          rw [e2] at this
          exact this
        simp only [oneF, ht, encRange.decS_sl, hb]
        rw [if_pos ⟨hl, hs, hbs⟩]
    refine ⟨σ1.length, nx + 1 + 1, σ1 ++ [some (.cells (nx + 1 + 1) false (I.t 3) 0 ((oneV l back s bs).map .b))], nx + 1 + 1 + 1, ?_, by simp [σ1], fun q hq => ?_, by simp [walkV]⟩
    · simp only [encSide, args0, args1, args2, args3, args4, jn_d, jv_d, jr_d, callK_ret, eCond_b, eGuard_b, pPick_b, pUn_not, eLeave_nil, bAdd_i, bSub_i, bMul_i, bQuo_i, bRem_i, bEql_i, bNeq_i, bLss_i, bLeq_i, bGtr_i, bGeq_i, bEql_s, bNeq_s, bLss_s, pInt_i, pLen_s, pLen_sl, pLen_gr, pLen_ns, pLen_sz, pBuild_d, fillK_nil, cond_true, cond_false, Bool.not_true, Bool.not_false, Bool.cond_self, List.length_nil, List.length_cons, List.nil_append, List.cons_append, List.append_nil, List.append_assoc, List.length_append, List.getElem?_cons_zero, List.getElem?_cons_succ, List.drop_succ_cons, List.drop_zero, List.drop_nil, List.take_succ_cons, List.take_zero, List.take_nil, List.set_cons_zero, List.set_cons_succ, Nat.zero_add, Nat.add_zero, Nat.zero_mul, Nat.mul_one, Nat.one_mul, Nat.reduceAdd, Nat.reduceMul, Nat.reduceSub, kont_v, AV.cells_i, AV.cells_s, AV.cells_b, AV.cells_agg, AV.cells_sl, decide_true]
      rw [pLoad_St g0 rfl (by decide) (by simp), pFadr_p g1 rfl, pLoad_Sf g1 rfl (by decide) (by rw [encSide.len]; decide)]
      simp only [encSide, args0, args1, args2, args3, args4, jn_d, jv_d, jr_d, callK_ret, eCond_b, eGuard_b, pPick_b, pUn_not, eLeave_nil, bAdd_i, bSub_i, bMul_i, bQuo_i, bRem_i, bEql_i, bNeq_i, bLss_i, bLeq_i, bGtr_i, bGeq_i, bEql_s, bNeq_s, bLss_s, pInt_i, pLen_s, pLen_sl, pLen_gr, pLen_ns, pLen_sz, pBuild_d, fillK_nil, cond_true, cond_false, Bool.not_true, Bool.not_false, Bool.cond_self, List.length_nil, List.length_cons, List.nil_append, List.cons_append, List.append_nil, List.append_assoc, List.length_append, List.getElem?_cons_zero, List.getElem?_cons_succ, List.drop_succ_cons, List.drop_zero, List.drop_nil, List.take_succ_cons, List.take_zero, List.take_nil, List.set_cons_zero, List.set_cons_succ, Nat.zero_add, Nat.add_zero, Nat.zero_mul, Nat.mul_one, Nat.one_mul, Nat.reduceAdd, Nat.reduceMul, Nat.reduceSub, kont_v, AV.cells_i, AV.cells_s, AV.cells_b, AV.cells_agg, AV.cells_sl, hone1]
    · show ((σ ++ _) ++ _)[q]? = _
      rw [List.append_assoc, List.getElem?_append_left hq]
def leadsF (isOk : List AV → Bool) : List AV → Option (Nat × Nat × Nat × List AV)
  | [.agg e, t, .i .i64 z, .b back] => match encSide.dec e, encR32.decS t with
    | some sd, some l => if isOk e = true ∧ sideOk sd = true ∧ l.length < 20000 ∧ 0 ≤ z ∧ z ≤ l.length then some (I.t 10, (leadsV sd l z.toNat back).length, 1, ((leadsV sd l z.toNat back).map fun (n : Nat) => (n : Int)).map (.i .i64)) else none
    | _, _ => none
  | _ => none
theorem trues_le : ∀ (bs : List Bool) (i : Nat), (trues bs i).length ≤ bs.length
  | [], _ => Nat.le_refl _
  | b :: bs, i => by
    have := trues_le bs (i + 1)
    cases b <;> simp [trues] <;> omega
theorem leads_c {R R1 : Rec} {isOk : List AV → Bool} (his : ∀ e, isOk e = true → ∀ s, R.f (I.f 14) [.agg e] s = some (.ret (.b true) s)) (hnone : ∀ args s, R.f (I.f 4) args s = rowOv (noneF I) R args s)
    (hwalk : ∀ args s, R.f (I.f 9) args s = B_mwalk I R1 args s) (hone : ∀ args s, R1.f (I.f 10) args s = rowOv (oneF I) R1 args s) (hall : ∀ args s, R.f (I.f 5) args s = B_mall I R1 args s) {G : List AV → Option (List Int)} (hGa : ∀ as seq, allG I as = some seq → G as = some seq)
    (hcoll : ∀ args s, R.f (I.f 13) args s = rowOv (collF I G) R args s) (as : List AV) (T n k : Nat) (cs : List AV) (h : leadsF I isOk as = some (T, n, k, cs)) :
    (n = 0 → Tot (fun v _ => v = .ns) (B_leads I R as (S [] 0))) ∧ (n ≠ 0 → Tot (IsRow Fla T n k cs) (B_leads I R as (S [] 0))) := by
  unfold leadsF at h
  split at h
  case h_2 => cases h
  rename_i e0 t z back
  split at h
  case h_2 => cases h
  rename_i e l he0 ht
  have := encSide.inv _ _ he0
  subst this
  split at h
  case isFalse => cases h
  rename_i hc
  obtain ⟨hok, hso, hl, hz0, hz1⟩ := hc
  obtain ⟨i, rfl⟩ : ∃ m : Nat, z = m := ⟨z.toNat, by omega⟩
  simp only [Int.toNat_natCast] at h
  have hi : i ≤ l.length := by omega
  cases h
  have hcl : Clo t := encR32.clo_of ht
  let bs : List Bool := indV l.length i
  have hbs : bs.length = l.length + 1 := by simp [bs, indV]
  let res : List Bool := walkV e l back bs
  have hres : res.length = l.length + 1 := by
    cases e with
    | none => exact hbs
    | set s => exact oneV_len _ _ _ _
  have hlv : leadsV e l i back = trues res 0 := by cases e <;> rfl
  rw [hlv]
  let σ0 : List (Option Blk) := [some (.cells 0 false (I.t 6) 0 (encSide.enc e)), some (.cells 1 false (I.t 2) 0 [t, .b back]), some (.cells 2 false (I.t 3) 0 (bs.map .b))]
  have g0 : ∀ x, ([some (.cells 0 false (I.t 6) 0 (encSide.enc e)), some (.cells 1 false (I.t 2) 0 [t, .b back]), x] : List (Option Blk))[0]? = some (some (.cells 0 false (I.t 6) 0 (encSide.enc e))) := fun _ => rfl
  have g1 : ∀ x, ([some (.cells 0 false (I.t 6) 0 (encSide.enc e)), some (.cells 1 false (I.t 2) 0 [t, .b back]), x] : List (Option Blk))[1]? = some (some (.cells 1 false (I.t 2) 0 [t, .b back])) := fun _ => rfl
  obtain ⟨r', st', σ', nx', hw, hw1, hw2, hw3⟩ := walk_run I (R := R1) hone (e := e) (back := back) (σ := σ0) (nx := 3) (r := 2) (st := 2) (bs := bs) ht hl hso hbs rfl (by simp [σ0])
  have hw3 : σ'[r']? = some (some (.cells st' false (I.t 3) 0 (res.map .b))) := hw3
  have hσ' : σ'.length ≤ 6 := hw1
  have hn1 : ∀ (σ : List (Option Blk)) (nx : Nat), σ.length ≤ 999999999 → R.f (I.f 4) [.agg [t, .b back]] (S σ nx) = some (.ret (.gr σ.length nx 0 (l.length + 1) 1) (S (σ ++ [some (.cells nx false (I.t 3) 0 (List.replicate (l.length + 1) (.b false)))]) (nx + 1))) := fun σ nx hσ => by
    rw [hnone]
    exact rowOv_S (mapO_clo (by simp only [CloL, Clo, and_self, and_true]; exact hcl)) (by simp only [noneF, ht]; rw [if_pos (by omega)]) (by simp) hσ
  let σ2 : List (Option Blk) := σ' ++ [some (.cells nx' false (I.t 5) 0 [.gr r' st' 0 (l.length + 1) 1])]
  have hr' : r' < σ'.length := (List.getElem?_eq_some_iff.1 hw3).1
  have hin : mapO (inlN 4 (S σ2 (nx' + 1))) [.fn (.func (I.f 8)) [] [.p σ'.length nx' 1 0 0]] = some [.fn (.func (I.f 8)) [] [.pe [.sl 1 (l.length + 1) (res.map .b)] 1 0 0]] := by
    refine mapO_c (inlN_fn rfl rfl (mapO_c (inlN_p (cs := [.gr r' st' 0 (l.length + 1) 1]) (T := I.t 5) (fz := 0) (by simp [σ2]) rfl (mapO_c ?_ rfl)) rfl)) rfl
    rw [inlN_gr (f := 0) (T := I.t 3) (fz := 0) (cs := res.map .b) (by show (σ' ++ _)[r']? = _; rw [List.getElem?_append_left hr']; exact hw3) rfl (by rw [CloL_iff]; intro x hx; obtain ⟨b, _, rfl⟩ := List.mem_map.1 hx; simp only [Clo]) (by simp; omega)]
    rw [List.take_of_length_le (by simp; omega)]
  have hdec : encB.decS (.sl 1 (l.length + 1) (res.map .b)) = some res := by
    have := encB.decS_sl res
    rw [Enc.sl, hres] at this
    have e2 : encB.encL res = res.map .b := by
      simp only [Enc.encL]
      rw [← List.flatMap_singleton' (res.map AV.b)]
      simp [List.flatMap_map, encB]
    rw [e2] at this
    exact this
  have hcF : collF I G [.fn (.func (I.f 8)) [] [.pe [.sl 1 (l.length + 1) (res.map .b)] 1 0 0]] = some (I.t 10, (trues res 0).length, 1, ((trues res 0).map fun (n : Nat) => (n : Int)).map (.i .i64)) := by
    unfold collF
    have hb : res.length < 30000 := by omega
    have := hGa [.fn (.func (I.f 8)) [] [.pe [.sl 1 (l.length + 1) (res.map .b)] 1 0 0]] _ (by simp only [allG, if_true, hdec]; rw [if_pos hb])
    rw [this]
    have := trues_le res 0
    simp only [List.length_map]
    rw [if_pos (by omega)]
  have main : ∀ Φ : AV → ES → Prop, Tot Φ (R.f (I.f 13) [.fn (.func (I.f 8)) [] [.p σ'.length nx' 1 0 0]] (S σ2 (nx' + 1))) → Tot Φ (B_leads I R [.agg (encSide.enc e), t, .i .i64 (i : Nat), .b back] (S [] 0)) := by
    intro Φ hΦ
    unfold B_leads
    rw [args4, pBox_S (AV.cells_agg _) (by simp)]
    have hd1 : decide ((i : Int) < 0) = false := by simp
    have hd2 : decide ((l.length : Int) < (i : Int)) = false := by simp; omega
    have h5 : (encSide.enc e).length = 5 := encSide.len e
    simp only [args0, args1, args2, args3, args4, jn_d, jv_d, jr_d, callK_ret, eCond_b, eGuard_b, pPick_b, pUn_not, eLeave_nil, bAdd_i, bSub_i, bMul_i, bQuo_i, bRem_i, bEql_i, bNeq_i, bLss_i, bLeq_i, bGtr_i, bGeq_i, bEql_s, bNeq_s, bLss_s, pInt_i, pLen_s, pLen_sl, pLen_gr, pLen_ns, pLen_sz, pBuild_d, fillK_nil, cond_true, cond_false, Bool.not_true, Bool.not_false, Bool.cond_self, List.length_nil, List.length_cons, List.nil_append, List.cons_append, List.append_nil, List.append_assoc, List.length_append, List.getElem?_cons_zero, List.getElem?_cons_succ, List.drop_succ_cons, List.drop_zero, List.drop_nil, List.take_succ_cons, List.take_zero, List.take_nil, List.set_cons_zero, List.set_cons_succ, Nat.zero_add, Nat.add_zero, Nat.zero_mul, Nat.mul_one, Nat.one_mul, Nat.reduceAdd, Nat.reduceMul, Nat.reduceSub, kont_v, AV.cells_i, AV.cells_s, AV.cells_b, AV.cells_agg, AV.cells_sl, h5, hd1, encR32.pLen_v ht, hd2]
    rw [pLoad_St (r := 0) (st' := 0) (cs := encSide.enc e) (T := I.t 6) (fz := 0) rfl rfl (by decide) (by rw [encSide.len]; decide)]
    have htk : List.take 5 (encSide.enc e) = encSide.enc e := by rw [List.take_of_length_le (by rw [encSide.len]; exact Nat.le_refl _)]
    simp only [args0, args1, args2, args3, args4, jn_d, jv_d, jr_d, callK_ret, eCond_b, eGuard_b, pPick_b, pUn_not, eLeave_nil, bAdd_i, bSub_i, bMul_i, bQuo_i, bRem_i, bEql_i, bNeq_i, bLss_i, bLeq_i, bGtr_i, bGeq_i, bEql_s, bNeq_s, bLss_s, pInt_i, pLen_s, pLen_sl, pLen_gr, pLen_ns, pLen_sz, pBuild_d, fillK_nil, cond_true, cond_false, Bool.not_true, Bool.not_false, Bool.cond_self, List.length_nil, List.length_cons, List.nil_append, List.cons_append, List.append_nil, List.append_assoc, List.length_append, List.getElem?_cons_zero, List.getElem?_cons_succ, List.drop_succ_cons, List.drop_zero, List.drop_nil, List.take_succ_cons, List.take_zero, List.take_nil, List.set_cons_zero, List.set_cons_succ, Nat.zero_add, Nat.add_zero, Nat.zero_mul, Nat.mul_one, Nat.one_mul, Nat.reduceAdd, Nat.reduceMul, Nat.reduceSub, kont_v, AV.cells_i, AV.cells_s, AV.cells_b, AV.cells_agg, AV.cells_sl, htk, his _ hok]
    unfold B_leadsj1
    simp only [args0, args1, args2, args3, args4, jn_d, jv_d, jr_d, callK_ret, eCond_b, eGuard_b, pPick_b, pUn_not, eLeave_nil, bAdd_i, bSub_i, bMul_i, bQuo_i, bRem_i, bEql_i, bNeq_i, bLss_i, bLeq_i, bGtr_i, bGeq_i, bEql_s, bNeq_s, bLss_s, pInt_i, pLen_s, pLen_sl, pLen_gr, pLen_ns, pLen_sz, pBuild_d, fillK_nil, cond_true, cond_false, Bool.not_true, Bool.not_false, Bool.cond_self, List.length_nil, List.length_cons, List.nil_append, List.cons_append, List.append_nil, List.append_assoc, List.length_append, List.getElem?_cons_zero, List.getElem?_cons_succ, List.drop_succ_cons, List.drop_zero, List.drop_nil, List.take_succ_cons, List.take_zero, List.take_nil, List.set_cons_zero, List.set_cons_succ, Nat.zero_add, Nat.add_zero, Nat.zero_mul, Nat.mul_one, Nat.one_mul, Nat.reduceAdd, Nat.reduceMul, Nat.reduceSub, kont_v, AV.cells_i, AV.cells_s, AV.cells_b, AV.cells_agg, AV.cells_sl]
    rw [fillK_cons (encR32.cells_of ht) (by rfl) (by simp), fillK_cons (AV.cells_b _) (by rfl) (by simp)]
    simp only [args0, args1, args2, args3, args4, jn_d, jv_d, jr_d, callK_ret, eCond_b, eGuard_b, pPick_b, pUn_not, eLeave_nil, bAdd_i, bSub_i, bMul_i, bQuo_i, bRem_i, bEql_i, bNeq_i, bLss_i, bLeq_i, bGtr_i, bGeq_i, bEql_s, bNeq_s, bLss_s, pInt_i, pLen_s, pLen_sl, pLen_gr, pLen_ns, pLen_sz, pBuild_d, fillK_nil, cond_true, cond_false, Bool.not_true, Bool.not_false, Bool.cond_self, List.length_nil, List.length_cons, List.nil_append, List.cons_append, List.append_nil, List.append_assoc, List.length_append, List.getElem?_cons_zero, List.getElem?_cons_succ, List.drop_succ_cons, List.drop_zero, List.drop_nil, List.take_succ_cons, List.take_zero, List.take_nil, List.set_cons_zero, List.set_cons_succ, Nat.zero_add, Nat.add_zero, Nat.zero_mul, Nat.mul_one, Nat.one_mul, Nat.reduceAdd, Nat.reduceMul, Nat.reduceSub, kont_v, AV.cells_i, AV.cells_s, AV.cells_b, AV.cells_agg, AV.cells_sl]
    rw [pRow_S (by simp)]
    simp only [args0, args1, args2, args3, args4, jn_d, jv_d, jr_d, callK_ret, eCond_b, eGuard_b, pPick_b, pUn_not, eLeave_nil, bAdd_i, bSub_i, bMul_i, bQuo_i, bRem_i, bEql_i, bNeq_i, bLss_i, bLeq_i, bGtr_i, bGeq_i, bEql_s, bNeq_s, bLss_s, pInt_i, pLen_s, pLen_sl, pLen_gr, pLen_ns, pLen_sz, pBuild_d, fillK_nil, cond_true, cond_false, Bool.not_true, Bool.not_false, Bool.cond_self, List.length_nil, List.length_cons, List.nil_append, List.cons_append, List.append_nil, List.append_assoc, List.length_append, List.getElem?_cons_zero, List.getElem?_cons_succ, List.drop_succ_cons, List.drop_zero, List.drop_nil, List.take_succ_cons, List.take_zero, List.take_nil, List.set_cons_zero, List.set_cons_succ, Nat.zero_add, Nat.add_zero, Nat.zero_mul, Nat.mul_one, Nat.one_mul, Nat.reduceAdd, Nat.reduceMul, Nat.reduceSub, kont_v, AV.cells_i, AV.cells_s, AV.cells_b, AV.cells_agg, AV.cells_sl]
    rw [pStore_S (n := 2) (kk := 2) (l := [some (.cells 0 false (I.t 6) 0 (encSide.enc e)), some (.cells 1 false (I.t 2) 0 [.ns, .b false])]) (r := 1) (st' := 1) (T := I.t 2) (old := [.ns, .b false]) rfl rfl (AV.cells_agg _) rfl (by decide) (by simp) (by simp)]
    simp only [args0, args1, args2, args3, args4, jn_d, jv_d, jr_d, callK_ret, eCond_b, eGuard_b, pPick_b, pUn_not, eLeave_nil, bAdd_i, bSub_i, bMul_i, bQuo_i, bRem_i, bEql_i, bNeq_i, bLss_i, bLeq_i, bGtr_i, bGeq_i, bEql_s, bNeq_s, bLss_s, pInt_i, pLen_s, pLen_sl, pLen_gr, pLen_ns, pLen_sz, pBuild_d, fillK_nil, cond_true, cond_false, Bool.not_true, Bool.not_false, Bool.cond_self, List.length_nil, List.length_cons, List.nil_append, List.cons_append, List.append_nil, List.append_assoc, List.length_append, List.getElem?_cons_zero, List.getElem?_cons_succ, List.drop_succ_cons, List.drop_zero, List.drop_nil, List.take_succ_cons, List.take_zero, List.take_nil, List.set_cons_zero, List.set_cons_succ, Nat.zero_add, Nat.add_zero, Nat.zero_mul, Nat.mul_one, Nat.one_mul, Nat.reduceAdd, Nat.reduceMul, Nat.reduceSub, kont_v, AV.cells_i, AV.cells_s, AV.cells_b, AV.cells_agg, AV.cells_sl]
    rw [pLoad_St (r := 1) (st' := 1) (cs := [t, .b back]) (T := I.t 2) (fz := 0) rfl rfl (by decide) (by simp)]
    simp only [args0, args1, args2, args3, args4, jn_d, jv_d, jr_d, callK_ret, eCond_b, eGuard_b, pPick_b, pUn_not, eLeave_nil, bAdd_i, bSub_i, bMul_i, bQuo_i, bRem_i, bEql_i, bNeq_i, bLss_i, bLeq_i, bGtr_i, bGeq_i, bEql_s, bNeq_s, bLss_s, pInt_i, pLen_s, pLen_sl, pLen_gr, pLen_ns, pLen_sz, pBuild_d, fillK_nil, cond_true, cond_false, Bool.not_true, Bool.not_false, Bool.cond_self, List.length_nil, List.length_cons, List.nil_append, List.cons_append, List.append_nil, List.append_assoc, List.length_append, List.getElem?_cons_zero, List.getElem?_cons_succ, List.drop_succ_cons, List.drop_zero, List.drop_nil, List.take_succ_cons, List.take_zero, List.take_nil, List.set_cons_zero, List.set_cons_succ, Nat.zero_add, Nat.add_zero, Nat.zero_mul, Nat.mul_one, Nat.one_mul, Nat.reduceAdd, Nat.reduceMul, Nat.reduceSub, kont_v, AV.cells_i, AV.cells_s, AV.cells_b, AV.cells_agg, AV.cells_sl]
    rw [hn1 _ _ (by simp)]
    simp only [args0, args1, args2, args3, args4, jn_d, jv_d, jr_d, callK_ret, eCond_b, eGuard_b, pPick_b, pUn_not, eLeave_nil, bAdd_i, bSub_i, bMul_i, bQuo_i, bRem_i, bEql_i, bNeq_i, bLss_i, bLeq_i, bGtr_i, bGeq_i, bEql_s, bNeq_s, bLss_s, pInt_i, pLen_s, pLen_sl, pLen_gr, pLen_ns, pLen_sz, pBuild_d, fillK_nil, cond_true, cond_false, Bool.not_true, Bool.not_false, Bool.cond_self, List.length_nil, List.length_cons, List.nil_append, List.cons_append, List.append_nil, List.append_assoc, List.length_append, List.getElem?_cons_zero, List.getElem?_cons_succ, List.drop_succ_cons, List.drop_zero, List.drop_nil, List.take_succ_cons, List.take_zero, List.take_nil, List.set_cons_zero, List.set_cons_succ, Nat.zero_add, Nat.add_zero, Nat.zero_mul, Nat.mul_one, Nat.one_mul, Nat.reduceAdd, Nat.reduceMul, Nat.reduceSub, kont_v, AV.cells_i, AV.cells_s, AV.cells_b, AV.cells_agg, AV.cells_sl]
    rw [pIadrS_gr (l := [some (.cells 0 false (I.t 6) 0 (encSide.enc e)), some (.cells 1 false (I.t 2) 0 [t, .b back]), some (.cells 2 false (I.t 3) 0 (List.replicate (l.length + 1) (.b false)))]) (st' := 2) (T := I.t 3) (fz := 0) rfl rfl rfl (by omega),
      pStore_S (n := 1) (kk := 1) (st' := 2) (T := I.t 3) (old := List.replicate (l.length + 1) (.b false)) rfl rfl (AV.cells_b _) rfl (by decide) (by simp; omega) (by simp)]
    have hrow : List.take ((0 + i) * 1 + 0) (List.replicate (l.length + 1) (AV.b false)) ++ ([AV.b true] ++ List.drop ((0 + i) * 1 + 0 + [AV.b true].length) (List.replicate (l.length + 1) (AV.b false))) = bs.map .b := by
      simp only [bs, indV, List.map_set, List.map_replicate]
      rw [List.set_eq_take_append_cons_drop, if_pos (by simp; omega)]
      simp only [Nat.zero_add, Nat.mul_one, Nat.add_zero, List.length_cons, List.length_nil, List.cons_append, List.nil_append]
    rw [hrow]
    simp only [args0, args1, args2, args3, args4, jn_d, jv_d, jr_d, callK_ret, eCond_b, eGuard_b, pPick_b, pUn_not, eLeave_nil, bAdd_i, bSub_i, bMul_i, bQuo_i, bRem_i, bEql_i, bNeq_i, bLss_i, bLeq_i, bGtr_i, bGeq_i, bEql_s, bNeq_s, bLss_s, pInt_i, pLen_s, pLen_sl, pLen_gr, pLen_ns, pLen_sz, pBuild_d, fillK_nil, cond_true, cond_false, Bool.not_true, Bool.not_false, Bool.cond_self, List.length_nil, List.length_cons, List.nil_append, List.cons_append, List.append_nil, List.append_assoc, List.length_append, List.getElem?_cons_zero, List.getElem?_cons_succ, List.drop_succ_cons, List.drop_zero, List.drop_nil, List.take_succ_cons, List.take_zero, List.take_nil, List.set_cons_zero, List.set_cons_succ, Nat.zero_add, Nat.add_zero, Nat.zero_mul, Nat.mul_one, Nat.one_mul, Nat.reduceAdd, Nat.reduceMul, Nat.reduceSub, kont_v, AV.cells_i, AV.cells_s, AV.cells_b, AV.cells_agg, AV.cells_sl]
    rw [pLoad_St (r := 1) (st' := 1) (cs := [t, .b back]) (T := I.t 2) (fz := 0) rfl rfl (by decide) (by simp), pLoad_St (r := 0) (st' := 0) (cs := encSide.enc e) (T := I.t 6) (fz := 0) rfl rfl (by decide) (by rw [encSide.len]; decide)]
    simp only [args0, args1, args2, args3, args4, jn_d, jv_d, jr_d, callK_ret, eCond_b, eGuard_b, pPick_b, pUn_not, eLeave_nil, bAdd_i, bSub_i, bMul_i, bQuo_i, bRem_i, bEql_i, bNeq_i, bLss_i, bLeq_i, bGtr_i, bGeq_i, bEql_s, bNeq_s, bLss_s, pInt_i, pLen_s, pLen_sl, pLen_gr, pLen_ns, pLen_sz, pBuild_d, fillK_nil, cond_true, cond_false, Bool.not_true, Bool.not_false, Bool.cond_self, List.length_nil, List.length_cons, List.nil_append, List.cons_append, List.append_nil, List.append_assoc, List.length_append, List.getElem?_cons_zero, List.getElem?_cons_succ, List.drop_succ_cons, List.drop_zero, List.drop_nil, List.take_succ_cons, List.take_zero, List.take_nil, List.set_cons_zero, List.set_cons_succ, Nat.zero_add, Nat.add_zero, Nat.zero_mul, Nat.mul_one, Nat.one_mul, Nat.reduceAdd, Nat.reduceMul, Nat.reduceSub, kont_v, AV.cells_i, AV.cells_s, AV.cells_b, AV.cells_agg, AV.cells_sl, htk, hwalk]
    rw [show ([some (.cells 0 false (I.t 6) 0 (encSide.enc e)), some (.cells 1 false (I.t 2) 0 [t, .b back]), some (.cells 2 false (I.t 3) 0 (bs.map .b))] : List (Option Blk)) = σ0 from rfl, hw]
    simp only [args0, args1, args2, args3, args4, jn_d, jv_d, jr_d, callK_ret, eCond_b, eGuard_b, pPick_b, pUn_not, eLeave_nil, bAdd_i, bSub_i, bMul_i, bQuo_i, bRem_i, bEql_i, bNeq_i, bLss_i, bLeq_i, bGtr_i, bGeq_i, bEql_s, bNeq_s, bLss_s, pInt_i, pLen_s, pLen_sl, pLen_gr, pLen_ns, pLen_sz, pBuild_d, fillK_nil, cond_true, cond_false, Bool.not_true, Bool.not_false, Bool.cond_self, List.length_nil, List.length_cons, List.nil_append, List.cons_append, List.append_nil, List.append_assoc, List.length_append, List.getElem?_cons_zero, List.getElem?_cons_succ, List.drop_succ_cons, List.drop_zero, List.drop_nil, List.take_succ_cons, List.take_zero, List.take_nil, List.set_cons_zero, List.set_cons_succ, Nat.zero_add, Nat.add_zero, Nat.zero_mul, Nat.mul_one, Nat.one_mul, Nat.reduceAdd, Nat.reduceMul, Nat.reduceSub, kont_v, AV.cells_i, AV.cells_s, AV.cells_b, AV.cells_agg, AV.cells_sl, hall]
    unfold B_mall
    rw [args1, pBox_S (cs := [.gr r' st' 0 (l.length + 1) 1]) rfl (by omega)]
    simp only [args0, args1, args2, args3, args4, jn_d, jv_d, jr_d, callK_ret, eCond_b, eGuard_b, pPick_b, pUn_not, eLeave_nil, bAdd_i, bSub_i, bMul_i, bQuo_i, bRem_i, bEql_i, bNeq_i, bLss_i, bLeq_i, bGtr_i, bGeq_i, bEql_s, bNeq_s, bLss_s, pInt_i, pLen_s, pLen_sl, pLen_gr, pLen_ns, pLen_sz, pBuild_d, fillK_nil, cond_true, cond_false, Bool.not_true, Bool.not_false, Bool.cond_self, List.length_nil, List.length_cons, List.nil_append, List.cons_append, List.append_nil, List.append_assoc, List.length_append, List.getElem?_cons_zero, List.getElem?_cons_succ, List.drop_succ_cons, List.drop_zero, List.drop_nil, List.take_succ_cons, List.take_zero, List.take_nil, List.set_cons_zero, List.set_cons_succ, Nat.zero_add, Nat.add_zero, Nat.zero_mul, Nat.mul_one, Nat.one_mul, Nat.reduceAdd, Nat.reduceMul, Nat.reduceSub, kont_v, AV.cells_i, AV.cells_s, AV.cells_b, AV.cells_agg, AV.cells_sl]
    refine hΦ.call fun v s hv => ?_
    exact Tot.ret hv
  have hcr := hcoll [.fn (.func (I.f 8)) [] [.p σ'.length nx' 1 0 0]] (S σ2 (nx' + 1))
  refine ⟨fun hn => main _ ?_, fun hn => main _ ?_⟩
  · rw [hcr]
    have e0 : (trues res 0).length = 0 := by simpa using hn
    rw [rowOv_0 hin (by rw [hcF, e0])]
    exact Tot.ret rfl
  · rw [hcr]
    rw [rowOv_S hin hcF (by simpa using hn) (by simp [σ2]; omega)]
    refine Tot.ret ⟨_, _, nx' + 1, _, rfl, ?_, InlL.same ?_⟩
    · rw [S_st]
      exact Store.at_of (by simp) rfl
    · rw [FlaL_iff]
      intro y hy
      obtain ⟨b, _, rfl⟩ := List.mem_map.1 hy
      simp only [Fla]
end
end Hb
end

section
set_option linter.unusedVariables false
set_option linter.unusedSimpArgs false
set_option linter.constructorNameAsVariable false
set_option autoImplicit false
set_option linter.unusedVariables false
set_option linter.unusedSimpArgs false
set_option linter.constructorNameAsVariable false
namespace Hb
open Go
structure RuleV where
  n : Int
  br : Bool
  l : Side
  r : Side
def encRule : Enc RuleV where
  k := 12
  enc a := .i .i64 a.n :: .b a.br :: (encSide.enc a.l ++ encSide.enc a.r)
  dec cs := match cs with
    | .i .i64 n :: .b br :: t => match encSide.dec (t.take 5), encSide.dec (t.drop 5) with
      | some l, some r => some ⟨n, br, l, r⟩
      | _, _ => Option.none
    | _ => Option.none
  pos := by decide
  len a := by simp [encSide.len]; rfl
  ok a := by
    have h1 : (encSide.enc a.l ++ encSide.enc a.r).take 5 = encSide.enc a.l := List.take_left' (encSide.len a.l)
    have h2 : (encSide.enc a.l ++ encSide.enc a.r).drop 5 = encSide.enc a.r := List.drop_left' (encSide.len a.l)
    simp only [h1, h2, encSide.ok]
  inv cs a h := by
    split at h
    · rename_i n br t
      split at h
      · rename_i l r h1 h2
        cases h
        rw [← encSide.inv _ _ h1, ← encSide.inv _ _ h2, List.take_append_drop]
      · cases h
    · cases h
  clo a := by
    simp only [CloL, Clo, true_and]
    exact CloL_append (encSide.clo _) (encSide.clo _)
theorem encRule_l (a : RuleV) : ((encRule.enc a).drop 2).take 5 = encSide.enc a.l := List.take_left' (encSide.len a.l)
theorem encRule_r (a : RuleV) : ((encRule.enc a).drop 7).take 5 = encSide.enc a.r := by
  have h : (encSide.enc a.l ++ encSide.enc a.r).drop 5 = encSide.enc a.r := List.drop_left' (encSide.len a.l)
  show ((encSide.enc a.l ++ encSide.enc a.r).drop 5).take 5 = _
  rw [h, List.take_of_length_le (by rw [encSide.len]; exact Nat.le_refl _)]
theorem encRule_len (a : RuleV) : (encRule.enc a).length = 12 := encRule.len a
section
variable (I : Ids) (isOk : List AV → Bool)
def begF (back : Bool) : List AV → Option (Nat × Nat × Nat × List AV)
  | [.agg e, t, .i .i64 z] => leadsF I isOk [.agg e, t, .i .i64 z, .b back]
  | _ => none
theorem leadsF_ok {e : List AV} {t : AV} {z : Int} {back : Bool} {r : Nat × Nat × Nat × List AV} (h : leadsF I isOk [.agg e, t, .i .i64 z, .b back] = some r) : CloL e ∧ Clo t ∧ e.length = 5 ∧ r.1 = I.t 10 ∧ r.2.2.1 = 1 ∧ FlaL r.2.2.2 := by
  simp only [leadsF] at h
  split at h
  case h_2 => cases h
  rename_i sd l h1 h2
  split at h
  case isFalse => cases h
  cases h
  have := encSide.inv _ _ h1
  subst this
  refine ⟨encSide.clo sd, encR32.clo_of h2, encSide.len sd, rfl, rfl, ?_⟩
  rw [FlaL_iff]
  intro y hy
  obtain ⟨b, _, rfl⟩ := List.mem_map.1 hy
  simp only [Fla]
theorem beg_c {R : Rec} {back : Bool} (hl : ∀ args s, R.f (I.f 15) args s = rowOv (leadsF I isOk) R args s) (B : Ids → Rec → List AV → ES → Res)
    (hB : ∀ e t z s, B I R [.agg e, t, .i .i64 z] s = pBox s (I.t 6) (.agg e) fun v5 s6 => pLoad s6 true 5 v5 fun v7 => callK (R.f (I.f 15) [v7, t, .i .i64 z, .b back] s6) fun v8 s9 => some (.ret v8 s9))
    (as : List AV) (T n k : Nat) (cs : List AV) (h : begF I isOk back as = some (T, n, k, cs)) : (n = 0 → Tot (fun v _ => v = .ns) (B I R as (S [] 0))) ∧ (n ≠ 0 → Tot (IsRow Fla T n k cs) (B I R as (S [] 0))) := by
  unfold begF at h
  split at h
  case h_2 => cases h
  rename_i e t z
  obtain ⟨h1, h2, h3, _, _, hf⟩ := leadsF_ok I isOk h
  have start : B I R [.agg e, t, .i .i64 z] (S [] 0) = callK (R.f (I.f 15) [.agg e, t, .i .i64 z, .b back] (S [some (.cells 0 false (I.t 6) 0 e)] 1)) fun v8 s9 => some (.ret v8 s9) := by
    rw [hB, pBox_S (AV.cells_agg _) (by simp)]
    simp only [args0, args1, args2, args3, args4, jn_d, jv_d, jr_d, callK_ret, eCond_b, eGuard_b, pPick_b, pUn_not, eLeave_nil, bAdd_i, bSub_i, bMul_i, bQuo_i, bRem_i, bEql_i, bNeq_i, bLss_i, bLeq_i, bGtr_i, bGeq_i, bEql_s, bNeq_s, bLss_s, pInt_i, pLen_s, pLen_sl, pLen_gr, pLen_ns, pLen_sz, pBuild_d, fillK_nil, cond_true, cond_false, Bool.not_true, Bool.not_false, Bool.cond_self, List.length_nil, List.length_cons, List.nil_append, List.cons_append, List.append_nil, List.append_assoc, List.length_append, List.getElem?_cons_zero, List.getElem?_cons_succ, List.drop_succ_cons, List.drop_zero, List.drop_nil, List.take_succ_cons, List.take_zero, List.take_nil, List.set_cons_zero, List.set_cons_succ, Nat.zero_add, Nat.add_zero, Nat.zero_mul, Nat.mul_one, Nat.one_mul, Nat.reduceAdd, Nat.reduceMul, Nat.reduceSub, kont_v, AV.cells_i, AV.cells_s, AV.cells_b, AV.cells_agg, AV.cells_sl, h3]
    rw [pLoad_St (r := 0) (st' := 0) (cs := e) (T := I.t 6) (fz := 0) rfl rfl (by decide) (by omega)]
    simp only [args0, args1, args2, args3, args4, jn_d, jv_d, jr_d, callK_ret, eCond_b, eGuard_b, pPick_b, pUn_not, eLeave_nil, bAdd_i, bSub_i, bMul_i, bQuo_i, bRem_i, bEql_i, bNeq_i, bLss_i, bLeq_i, bGtr_i, bGeq_i, bEql_s, bNeq_s, bLss_s, pInt_i, pLen_s, pLen_sl, pLen_gr, pLen_ns, pLen_sz, pBuild_d, fillK_nil, cond_true, cond_false, Bool.not_true, Bool.not_false, Bool.cond_self, List.length_nil, List.length_cons, List.nil_append, List.cons_append, List.append_nil, List.append_assoc, List.length_append, List.getElem?_cons_zero, List.getElem?_cons_succ, List.drop_succ_cons, List.drop_zero, List.drop_nil, List.take_succ_cons, List.take_zero, List.take_nil, List.set_cons_zero, List.set_cons_succ, Nat.zero_add, Nat.add_zero, Nat.zero_mul, Nat.mul_one, Nat.one_mul, Nat.reduceAdd, Nat.reduceMul, Nat.reduceSub, kont_v, AV.cells_i, AV.cells_s, AV.cells_b, AV.cells_agg, AV.cells_sl]
    rw [List.take_of_length_le (by omega)]
  rw [start, hl]
  have hc : CloL [.agg e, t, .i .i64 z, .b back] := by simp only [CloL, Clo, and_true]; exact ⟨h1, h2⟩
  refine ⟨fun hn => ?_, fun hn => ?_⟩
  · subst hn
    rw [rowOv_0 (mapO_clo hc) h]
    exact Tot.ret rfl
  · rw [rowOv_S (mapO_clo hc) h hn (by simp)]
    refine Tot.ret ⟨_, _, 1, _, rfl, ?_, InlL.same hf⟩
    rw [S_st]
    exact Store.at_of (by simp) rfl
theorem Begins_c {R : Rec} (hl : ∀ args s, R.f (I.f 15) args s = rowOv (leadsF I isOk) R args s) (as : List AV) (T n k : Nat) (cs : List AV) (h : begF I isOk true as = some (T, n, k, cs)) :
    (n = 0 → Tot (fun v _ => v = .ns) (B_Begins I R as (S [] 0))) ∧ (n ≠ 0 → Tot (IsRow Fla T n k cs) (B_Begins I R as (S [] 0))) := beg_c I isOk hl B_Begins (fun _ _ _ _ => rfl) as T n k cs h
theorem Ends_c {R : Rec} (hl : ∀ args s, R.f (I.f 15) args s = rowOv (leadsF I isOk) R args s) (as : List AV) (T n k : Nat) (cs : List AV) (h : begF I isOk false as = some (T, n, k, cs)) :
    (n = 0 → Tot (fun v _ => v = .ns) (B_Ends I R as (S [] 0))) ∧ (n ≠ 0 → Tot (IsRow Fla T n k cs) (B_Ends I R as (S [] 0))) := beg_c I isOk hl B_Ends (fun _ _ _ _ => rfl) as T n k cs h
def whyV : List RuleV → List Int → Nat → Int × Bool
  | [], _, _ => (-1, true)
  | a :: rs, l, i => cond (decide (0 < (leadsV a.l l i true).length) && decide (0 < (leadsV a.r l i false).length)) (a.n, a.br) (whyV rs l i)
def rulesOk (rs : List RuleV) : Bool := rs.all fun a => isOk (encSide.enc a.l) && (sideOk a.l && (isOk (encSide.enc a.r) && sideOk a.r))
def whyF : List AV → Option AV
  | [.agg [rv, sk], t, .i .i64 z] => match encRule.decS rv, encR32.decS t with
    | some rs, some l => if rulesOk isOk rs = true ∧ rs.length < 1000 ∧ l.length < 20000 ∧ 0 ≤ z ∧ z ≤ l.length then some (.tup [.i .i64 (whyV rs l z.toNat).1, .b (whyV rs l z.toNat).2]) else none
    | _, _ => none
  | _ => none
theorem why_c {R : Rec} (hb : ∀ args s, R.f (I.f 16) args s = rowOv (begF I isOk true) R args s) (he : ∀ args s, R.f (I.f 17) args s = rowOv (begF I isOk false) R args s) (as : List AV) (v : AV) (h : whyF isOk as = some v) :
    Tot (fun v0 s0 => ∃ v', Inl Fla s0.st.1 v0 v' ∧ v' = v) (B_why I R as (S [] 0)) := by
  unfold whyF at h
  split at h
  case h_2 => cases h
  rename_i rv sk t z
  split at h
  case h_2 => cases h
  rename_i rs l hr ht
  split at h
  case isFalse => cases h
  rename_i hc
  obtain ⟨hok, hrl, hl, hz0, hz1⟩ := hc
  cases h
  obtain ⟨i, rfl⟩ : ∃ m : Nat, z = m := ⟨z.toNat, by omega⟩
  simp only [Int.toNat_natCast]
  have hi : i ≤ l.length := by omega
  -- a call of Begins, Ends
  have callE : ∀ (f : Nat) (back : Bool), (∀ args s, R.f (I.f f) args s = rowOv (begF I isOk back) R args s) → ∀ (e : Side), isOk (encSide.enc e) = true → sideOk e = true → ∀ (σ : List (Option Blk)) (nx : Nat), σ.length ≤ 999999999 →
      ∃ v g nx', R.f (I.f f) [.agg (encSide.enc e), t, .i .i64 (i : Nat)] (S σ nx) = some (.ret v (S (σ ++ g) nx')) ∧ g.length ≤ 1 ∧ ∀ k, pLen false v k = k (.i .i64 ((leadsV e l i back).length : Nat)) := by
    intro f back hf e h1 h2 σ nx hσ
    have hF : begF I isOk back [.agg (encSide.enc e), t, .i .i64 (i : Nat)] = some (I.t 10, (leadsV e l i back).length, 1, ((leadsV e l i back).map fun (n : Nat) => (n : Int)).map (.i .i64)) := by
      simp only [begF, leadsF, encSide.ok, ht, Int.toNat_natCast]
      rw [if_pos ⟨h1, h2, hl, by omega, by omega⟩]
    have hcl : CloL [.agg (encSide.enc e), t, .i .i64 (i : Nat)] := by simp only [CloL, Clo, and_true]; exact ⟨encSide.clo e, encR32.clo_of ht⟩
    by_cases hn : (leadsV e l i back).length = 0
    · rw [hf]
      rw [hn] at hF ⊢
      refine ⟨.ns, [], nx, ?_, by simp, fun k => pLen_ns k⟩
      rw [rowOv_0 (mapO_clo hcl) hF]; simp
    · rw [hf]
      exact ⟨_, _, nx + 1, rowOv_S (mapO_clo hcl) hF hn hσ, by simp, fun k => pLen_gr _ _ _ _ _ k⟩
  have key : ∀ (m : List RuleV) (j fuel : Nat) (σ : List (Option Blk)) (nx : Nat), m = rs.drop j → j + m.length = rs.length → m.length < fuel → σ.length ≤ 3 * j + 1 →
      ∃ s', lp [13] fuel (B_whyl4 I R (.i .i64 (rs.length : Nat)) rv t (.i .i64 (i : Nat)) (B_whyj1 I R)) (.i .i64 (j : Nat)) [] (S σ nx) = some (.ret (.tup [.i .i64 (whyV m l i).1, .b (whyV m l i).2]) s') := by
    intro m
    induction m with
    | nil =>
      intro j fuel σ nx he hj hf hσ
      cases fuel with
      | zero => omega
      | succ f =>
        simp only [List.length_nil] at hj
        rw [lp_s]
        have hd : decide ((j : Int) < (rs.length : Int)) = false := by simp; omega
        refine ⟨S σ nx, ?_⟩
        simp only [B_whyl4, B_whyj1, args0, args1, args2, args3, args4, jn_d, jv_d, jr_d, callK_ret, eCond_b, eGuard_b, pPick_b, pUn_not, eLeave_nil, bAdd_i, bSub_i, bMul_i, bQuo_i, bRem_i, bEql_i, bNeq_i, bLss_i, bLeq_i, bGtr_i, bGeq_i, bEql_s, bNeq_s, bLss_s, pInt_i, pLen_s, pLen_sl, pLen_gr, pLen_ns, pLen_sz, pBuild_d, fillK_nil, cond_true, cond_false, Bool.not_true, Bool.not_false, Bool.cond_self, List.length_nil, List.length_cons, List.nil_append, List.cons_append, List.append_nil, List.append_assoc, List.length_append, List.getElem?_cons_zero, List.getElem?_cons_succ, List.drop_succ_cons, List.drop_zero, List.drop_nil, List.take_succ_cons, List.take_zero, List.take_nil, List.set_cons_zero, List.set_cons_succ, Nat.zero_add, Nat.add_zero, Nat.zero_mul, Nat.mul_one, Nat.one_mul, Nat.reduceAdd, Nat.reduceMul, Nat.reduceSub, kont_v, AV.cells_i, AV.cells_s, AV.cells_b, AV.cells_agg, AV.cells_sl, hd, whyV]
    | cons a m ih =>
      intro j fuel σ nx he0 hj hf hσ
      cases fuel with
      | zero => simp at hf
      | succ f =>
        simp only [List.length_cons] at hj hf
        have hlt : j < rs.length := by omega
        have hx : rs[j]? = some a := by
          have := congrArg List.head? he0
          rw [List.head?_drop] at this
          exact this.symm
        have hm : m = rs.drop (j + 1) := by
          have := congrArg List.tail he0
          rw [List.tail_drop] at this
          exact this
        have hmem : a ∈ rs := List.mem_of_getElem? hx
        have hoka := List.all_eq_true.1 hok a hmem
        simp only [Bool.and_eq_true] at hoka
        obtain ⟨ok1, ok2, ok3, ok4⟩ := hoka
        have ih' := fun σ nx h => ih (j + 1) f σ nx hm (by omega) (by omega) h
        rw [lp_s]
        generalize lp [13] f _ = K at ih' ⊢
        have hd : decide ((j : Int) < (rs.length : Int)) = true := by simp; omega
        have hw : IntKind.i64.wrap ((j : Nat) + 1 : Int) = ((j + 1 : Nat) : Int) := by rw [wrap64 (by omega) (by omega)]; omega
        let σ1 : List (Option Blk) := σ ++ [some (.cells nx false (I.t 7) 0 (encRule.enc a))]
        have g1 : ∀ g, (σ1 ++ g)[σ.length]? = some (some (.cells nx false (I.t 7) 0 (encRule.enc a))) := fun g => by
          show ((σ ++ _) ++ g)[σ.length]? = _
          rw [List.append_assoc, List.getElem?_append_right (Nat.le_refl _)]; simp
        have g0 : σ1[σ.length]? = some (some (.cells nx false (I.t 7) 0 (encRule.enc a))) := by simp [σ1]
        have hl1 : σ1.length = σ.length + 1 := by simp [σ1]
        obtain ⟨v1, ga, nx1, c1, hg1, p1⟩ := callE 16 true hb a.l ok1 ok2 σ1 (nx + 1) (by omega)
        obtain ⟨v2, gb, nx2, c2, hg2, p2⟩ := callE 17 false he a.r ok3 ok4 (σ1 ++ ga) nx1 (by simp; omega)
        simp only [B_whyl4, B_whyj3, B_whyj2, args0, args1, args2, args3, args4, jn_d, jv_d, jr_d, callK_ret, eCond_b, eGuard_b, pPick_b, pUn_not, eLeave_nil, bAdd_i, bSub_i, bMul_i, bQuo_i, bRem_i, bEql_i, bNeq_i, bLss_i, bLeq_i, bGtr_i, bGeq_i, bEql_s, bNeq_s, bLss_s, pInt_i, pLen_s, pLen_sl, pLen_gr, pLen_ns, pLen_sz, pBuild_d, fillK_nil, cond_true, cond_false, Bool.not_true, Bool.not_false, Bool.cond_self, List.length_nil, List.length_cons, List.nil_append, List.cons_append, List.append_nil, List.append_assoc, List.length_append, List.getElem?_cons_zero, List.getElem?_cons_succ, List.drop_succ_cons, List.drop_zero, List.drop_nil, List.take_succ_cons, List.take_zero, List.take_nil, List.set_cons_zero, List.set_cons_succ, Nat.zero_add, Nat.add_zero, Nat.zero_mul, Nat.mul_one, Nat.one_mul, Nat.reduceAdd, Nat.reduceMul, Nat.reduceSub, kont_v, AV.cells_i, AV.cells_s, AV.cells_b, AV.cells_agg, AV.cells_sl, hd, encRule.iadr (kk := 12) hr rfl rfl hlt, encRule.load_t (kk := 12) rfl hx]
        rw [pRow_S (by omega)]
        simp only [args0, args1, args2, args3, args4, jn_d, jv_d, jr_d, callK_ret, eCond_b, eGuard_b, pPick_b, pUn_not, eLeave_nil, bAdd_i, bSub_i, bMul_i, bQuo_i, bRem_i, bEql_i, bNeq_i, bLss_i, bLeq_i, bGtr_i, bGeq_i, bEql_s, bNeq_s, bLss_s, pInt_i, pLen_s, pLen_sl, pLen_gr, pLen_ns, pLen_sz, pBuild_d, fillK_nil, cond_true, cond_false, Bool.not_true, Bool.not_false, Bool.cond_self, List.length_nil, List.length_cons, List.nil_append, List.cons_append, List.append_nil, List.append_assoc, List.length_append, List.getElem?_cons_zero, List.getElem?_cons_succ, List.drop_succ_cons, List.drop_zero, List.drop_nil, List.take_succ_cons, List.take_zero, List.take_nil, List.set_cons_zero, List.set_cons_succ, Nat.zero_add, Nat.add_zero, Nat.zero_mul, Nat.mul_one, Nat.one_mul, Nat.reduceAdd, Nat.reduceMul, Nat.reduceSub, kont_v, AV.cells_i, AV.cells_s, AV.cells_b, AV.cells_agg, AV.cells_sl]
        rw [pStore_S (n := 12) (kk := 12) (r := σ.length) (st' := nx) (T := I.t 7) (old := [.i .i64 0, .b false, .i .i64 0, .i .i64 0, .ns, .s [], .ns, .i .i64 0, .i .i64 0, .ns, .s [], .ns]) (by simp) rfl (AV.cells_agg _) (encRule_len a) (by decide) (by simp) (by simp; omega)]
        have hset : (σ ++ [some (Blk.cells nx false (I.t 7) 0 [.i .i64 0, .b false, .i .i64 0, .i .i64 0, .ns, .s [], .ns, .i .i64 0, .i .i64 0, .ns, .s [], .ns])]).set σ.length (some (.cells nx false (I.t 7) 0 (encRule.enc a))) = σ1 := by simp [σ1]
        simp only [args0, args1, args2, args3, args4, jn_d, jv_d, jr_d, callK_ret, eCond_b, eGuard_b, pPick_b, pUn_not, eLeave_nil, bAdd_i, bSub_i, bMul_i, bQuo_i, bRem_i, bEql_i, bNeq_i, bLss_i, bLeq_i, bGtr_i, bGeq_i, bEql_s, bNeq_s, bLss_s, pInt_i, pLen_s, pLen_sl, pLen_gr, pLen_ns, pLen_sz, pBuild_d, fillK_nil, cond_true, cond_false, Bool.not_true, Bool.not_false, Bool.cond_self, List.length_nil, List.length_cons, List.nil_append, List.cons_append, List.append_nil, List.append_assoc, List.length_append, List.getElem?_cons_zero, List.getElem?_cons_succ, List.drop_succ_cons, List.drop_zero, List.drop_nil, List.take_succ_cons, List.take_zero, List.take_nil, List.set_cons_zero, List.set_cons_succ, Nat.zero_add, Nat.add_zero, Nat.zero_mul, Nat.mul_one, Nat.one_mul, Nat.reduceAdd, Nat.reduceMul, Nat.reduceSub, kont_v, AV.cells_i, AV.cells_s, AV.cells_b, AV.cells_agg, AV.cells_sl, encRule_len, hset]
        rw [pFadr_p g0 rfl, pLoad_St g0 rfl (by decide) (by rw [encRule_len]; decide)]
        simp only [args0, args1, args2, args3, args4, jn_d, jv_d, jr_d, callK_ret, eCond_b, eGuard_b, pPick_b, pUn_not, eLeave_nil, bAdd_i, bSub_i, bMul_i, bQuo_i, bRem_i, bEql_i, bNeq_i, bLss_i, bLeq_i, bGtr_i, bGeq_i, bEql_s, bNeq_s, bLss_s, pInt_i, pLen_s, pLen_sl, pLen_gr, pLen_ns, pLen_sz, pBuild_d, fillK_nil, cond_true, cond_false, Bool.not_true, Bool.not_false, Bool.cond_self, List.length_nil, List.length_cons, List.nil_append, List.cons_append, List.append_nil, List.append_assoc, List.length_append, List.getElem?_cons_zero, List.getElem?_cons_succ, List.drop_succ_cons, List.drop_zero, List.drop_nil, List.take_succ_cons, List.take_zero, List.take_nil, List.set_cons_zero, List.set_cons_succ, Nat.zero_add, Nat.add_zero, Nat.zero_mul, Nat.mul_one, Nat.one_mul, Nat.reduceAdd, Nat.reduceMul, Nat.reduceSub, kont_v, AV.cells_i, AV.cells_s, AV.cells_b, AV.cells_agg, AV.cells_sl]
        rw [encRule_l a, c1]
        have hgt : ∀ n : Nat, decide ((0 : Int) < (n : Int)) = decide (0 < n) := fun n => by simp
        simp only [args0, args1, args2, args3, args4, jn_d, jv_d, jr_d, callK_ret, eCond_b, eGuard_b, pPick_b, pUn_not, eLeave_nil, bAdd_i, bSub_i, bMul_i, bQuo_i, bRem_i, bEql_i, bNeq_i, bLss_i, bLeq_i, bGtr_i, bGeq_i, bEql_s, bNeq_s, bLss_s, pInt_i, pLen_s, pLen_sl, pLen_gr, pLen_ns, pLen_sz, pBuild_d, fillK_nil, cond_true, cond_false, Bool.not_true, Bool.not_false, Bool.cond_self, List.length_nil, List.length_cons, List.nil_append, List.cons_append, List.append_nil, List.append_assoc, List.length_append, List.getElem?_cons_zero, List.getElem?_cons_succ, List.drop_succ_cons, List.drop_zero, List.drop_nil, List.take_succ_cons, List.take_zero, List.take_nil, List.set_cons_zero, List.set_cons_succ, Nat.zero_add, Nat.add_zero, Nat.zero_mul, Nat.mul_one, Nat.one_mul, Nat.reduceAdd, Nat.reduceMul, Nat.reduceSub, kont_v, AV.cells_i, AV.cells_s, AV.cells_b, AV.cells_agg, AV.cells_sl, p1, hgt, whyV]
        cases hA : decide (0 < (leadsV a.l l i true).length) with
        | false =>
          obtain ⟨s', hs'⟩ := ih' (σ1 ++ ga) nx1 (by simp; omega)
          refine ⟨s', ?_⟩
          simp only [args0, args1, args2, args3, args4, jn_d, jv_d, jr_d, callK_ret, eCond_b, eGuard_b, pPick_b, pUn_not, eLeave_nil, bAdd_i, bSub_i, bMul_i, bQuo_i, bRem_i, bEql_i, bNeq_i, bLss_i, bLeq_i, bGtr_i, bGeq_i, bEql_s, bNeq_s, bLss_s, pInt_i, pLen_s, pLen_sl, pLen_gr, pLen_ns, pLen_sz, pBuild_d, fillK_nil, cond_true, cond_false, Bool.not_true, Bool.not_false, Bool.cond_self, List.length_nil, List.length_cons, List.nil_append, List.cons_append, List.append_nil, List.append_assoc, List.length_append, List.getElem?_cons_zero, List.getElem?_cons_succ, List.drop_succ_cons, List.drop_zero, List.drop_nil, List.take_succ_cons, List.take_zero, List.take_nil, List.set_cons_zero, List.set_cons_succ, Nat.zero_add, Nat.add_zero, Nat.zero_mul, Nat.mul_one, Nat.one_mul, Nat.reduceAdd, Nat.reduceMul, Nat.reduceSub, kont_v, AV.cells_i, AV.cells_s, AV.cells_b, AV.cells_agg, AV.cells_sl, Bool.false_and, hw]
          exact hs'
        | true =>
          simp only [args0, args1, args2, args3, args4, jn_d, jv_d, jr_d, callK_ret, eCond_b, eGuard_b, pPick_b, pUn_not, eLeave_nil, bAdd_i, bSub_i, bMul_i, bQuo_i, bRem_i, bEql_i, bNeq_i, bLss_i, bLeq_i, bGtr_i, bGeq_i, bEql_s, bNeq_s, bLss_s, pInt_i, pLen_s, pLen_sl, pLen_gr, pLen_ns, pLen_sz, pBuild_d, fillK_nil, cond_true, cond_false, Bool.not_true, Bool.not_false, Bool.cond_self, List.length_nil, List.length_cons, List.nil_append, List.cons_append, List.append_nil, List.append_assoc, List.length_append, List.getElem?_cons_zero, List.getElem?_cons_succ, List.drop_succ_cons, List.drop_zero, List.drop_nil, List.take_succ_cons, List.take_zero, List.take_nil, List.set_cons_zero, List.set_cons_succ, Nat.zero_add, Nat.add_zero, Nat.zero_mul, Nat.mul_one, Nat.one_mul, Nat.reduceAdd, Nat.reduceMul, Nat.reduceSub, kont_v, AV.cells_i, AV.cells_s, AV.cells_b, AV.cells_agg, AV.cells_sl, Bool.true_and]
          rw [pFadr_p (g1 ga) rfl]
          simp only [args0, args1, args2, args3, args4, jn_d, jv_d, jr_d, callK_ret, eCond_b, eGuard_b, pPick_b, pUn_not, eLeave_nil, bAdd_i, bSub_i, bMul_i, bQuo_i, bRem_i, bEql_i, bNeq_i, bLss_i, bLeq_i, bGtr_i, bGeq_i, bEql_s, bNeq_s, bLss_s, pInt_i, pLen_s, pLen_sl, pLen_gr, pLen_ns, pLen_sz, pBuild_d, fillK_nil, cond_true, cond_false, Bool.not_true, Bool.not_false, Bool.cond_self, List.length_nil, List.length_cons, List.nil_append, List.cons_append, List.append_nil, List.append_assoc, List.length_append, List.getElem?_cons_zero, List.getElem?_cons_succ, List.drop_succ_cons, List.drop_zero, List.drop_nil, List.take_succ_cons, List.take_zero, List.take_nil, List.set_cons_zero, List.set_cons_succ, Nat.zero_add, Nat.add_zero, Nat.zero_mul, Nat.mul_one, Nat.one_mul, Nat.reduceAdd, Nat.reduceMul, Nat.reduceSub, kont_v, AV.cells_i, AV.cells_s, AV.cells_b, AV.cells_agg, AV.cells_sl]
          rw [pLoad_St (g1 ga) rfl (by decide) (by rw [encRule_len]; decide)]
          simp only [args0, args1, args2, args3, args4, jn_d, jv_d, jr_d, callK_ret, eCond_b, eGuard_b, pPick_b, pUn_not, eLeave_nil, bAdd_i, bSub_i, bMul_i, bQuo_i, bRem_i, bEql_i, bNeq_i, bLss_i, bLeq_i, bGtr_i, bGeq_i, bEql_s, bNeq_s, bLss_s, pInt_i, pLen_s, pLen_sl, pLen_gr, pLen_ns, pLen_sz, pBuild_d, fillK_nil, cond_true, cond_false, Bool.not_true, Bool.not_false, Bool.cond_self, List.length_nil, List.length_cons, List.nil_append, List.cons_append, List.append_nil, List.append_assoc, List.length_append, List.getElem?_cons_zero, List.getElem?_cons_succ, List.drop_succ_cons, List.drop_zero, List.drop_nil, List.take_succ_cons, List.take_zero, List.take_nil, List.set_cons_zero, List.set_cons_succ, Nat.zero_add, Nat.add_zero, Nat.zero_mul, Nat.mul_one, Nat.one_mul, Nat.reduceAdd, Nat.reduceMul, Nat.reduceSub, kont_v, AV.cells_i, AV.cells_s, AV.cells_b, AV.cells_agg, AV.cells_sl]
          rw [encRule_r a, c2]
          simp only [args0, args1, args2, args3, args4, jn_d, jv_d, jr_d, callK_ret, eCond_b, eGuard_b, pPick_b, pUn_not, eLeave_nil, bAdd_i, bSub_i, bMul_i, bQuo_i, bRem_i, bEql_i, bNeq_i, bLss_i, bLeq_i, bGtr_i, bGeq_i, bEql_s, bNeq_s, bLss_s, pInt_i, pLen_s, pLen_sl, pLen_gr, pLen_ns, pLen_sz, pBuild_d, fillK_nil, cond_true, cond_false, Bool.not_true, Bool.not_false, Bool.cond_self, List.length_nil, List.length_cons, List.nil_append, List.cons_append, List.append_nil, List.append_assoc, List.length_append, List.getElem?_cons_zero, List.getElem?_cons_succ, List.drop_succ_cons, List.drop_zero, List.drop_nil, List.take_succ_cons, List.take_zero, List.take_nil, List.set_cons_zero, List.set_cons_succ, Nat.zero_add, Nat.add_zero, Nat.zero_mul, Nat.mul_one, Nat.one_mul, Nat.reduceAdd, Nat.reduceMul, Nat.reduceSub, kont_v, AV.cells_i, AV.cells_s, AV.cells_b, AV.cells_agg, AV.cells_sl, p2, hgt]
          cases hB : decide (0 < (leadsV a.r l i false).length) with
          | false =>
            obtain ⟨s', hs'⟩ := ih' (σ1 ++ ga ++ gb) nx2 (by simp; omega)
            refine ⟨s', ?_⟩
            simp only [args0, args1, args2, args3, args4, jn_d, jv_d, jr_d, callK_ret, eCond_b, eGuard_b, pPick_b, pUn_not, eLeave_nil, bAdd_i, bSub_i, bMul_i, bQuo_i, bRem_i, bEql_i, bNeq_i, bLss_i, bLeq_i, bGtr_i, bGeq_i, bEql_s, bNeq_s, bLss_s, pInt_i, pLen_s, pLen_sl, pLen_gr, pLen_ns, pLen_sz, pBuild_d, fillK_nil, cond_true, cond_false, Bool.not_true, Bool.not_false, Bool.cond_self, List.length_nil, List.length_cons, List.nil_append, List.cons_append, List.append_nil, List.append_assoc, List.length_append, List.getElem?_cons_zero, List.getElem?_cons_succ, List.drop_succ_cons, List.drop_zero, List.drop_nil, List.take_succ_cons, List.take_zero, List.take_nil, List.set_cons_zero, List.set_cons_succ, Nat.zero_add, Nat.add_zero, Nat.zero_mul, Nat.mul_one, Nat.one_mul, Nat.reduceAdd, Nat.reduceMul, Nat.reduceSub, kont_v, AV.cells_i, AV.cells_s, AV.cells_b, AV.cells_agg, AV.cells_sl, hw] at hs' ⊢
            exact hs'
          | true =>
            refine ⟨S (σ1 ++ ga ++ gb) nx2, ?_⟩
            have g2 : (σ1 ++ ga ++ gb)[σ.length]? = some (some (.cells nx false (I.t 7) 0 (encRule.enc a))) := by rw [List.append_assoc]; exact g1 _
            simp only [args0, args1, args2, args3, args4, jn_d, jv_d, jr_d, callK_ret, eCond_b, eGuard_b, pPick_b, pUn_not, eLeave_nil, bAdd_i, bSub_i, bMul_i, bQuo_i, bRem_i, bEql_i, bNeq_i, bLss_i, bLeq_i, bGtr_i, bGeq_i, bEql_s, bNeq_s, bLss_s, pInt_i, pLen_s, pLen_sl, pLen_gr, pLen_ns, pLen_sz, pBuild_d, fillK_nil, cond_true, cond_false, Bool.not_true, Bool.not_false, Bool.cond_self, List.length_nil, List.length_cons, List.nil_append, List.cons_append, List.append_nil, List.append_assoc, List.length_append, List.getElem?_cons_zero, List.getElem?_cons_succ, List.drop_succ_cons, List.drop_zero, List.drop_nil, List.take_succ_cons, List.take_zero, List.take_nil, List.set_cons_zero, List.set_cons_succ, Nat.zero_add, Nat.add_zero, Nat.zero_mul, Nat.mul_one, Nat.one_mul, Nat.reduceAdd, Nat.reduceMul, Nat.reduceSub, kont_v, AV.cells_i, AV.cells_s, AV.cells_b, AV.cells_agg, AV.cells_sl]
            simp only [List.append_assoc] at g2 ⊢
            rw [pFadr_p g2 rfl, pLoad_Sf g2 rfl (by decide) (by rw [encRule_len]; decide), show (encRule.enc a)[0 * 12 + (0 + 0)]? = some (.i .i64 a.n) from rfl, kont_v, pFadr_p g2 rfl,
              pLoad_Sf g2 rfl (by decide) (by rw [encRule_len]; decide), show (encRule.enc a)[0 * 12 + (0 + 1)]? = some (.b a.br) from rfl, kont_v]
  have hrv : rv.cells = some [rv] := encRule.cells_of hr
  obtain ⟨s', hs'⟩ := key rs 0 30000 [some (.cells 0 false (I.t 8) 0 [rv, sk])] 1 (by simp) (by simp) (by omega) (by simp)
  have : B_why I R [.agg [rv, sk], t, .i .i64 (i : Nat)] (S [] 0) = some (.ret (.tup [.i .i64 (whyV rs l i).1, .b (whyV rs l i).2]) s') := by
    unfold B_why
    rw [args3, pBox_S (AV.cells_agg _) (by simp)]
    simp only [args0, args1, args2, args3, args4, jn_d, jv_d, jr_d, callK_ret, eCond_b, eGuard_b, pPick_b, pUn_not, eLeave_nil, bAdd_i, bSub_i, bMul_i, bQuo_i, bRem_i, bEql_i, bNeq_i, bLss_i, bLeq_i, bGtr_i, bGeq_i, bEql_s, bNeq_s, bLss_s, pInt_i, pLen_s, pLen_sl, pLen_gr, pLen_ns, pLen_sz, pBuild_d, fillK_nil, cond_true, cond_false, Bool.not_true, Bool.not_false, Bool.cond_self, List.length_nil, List.length_cons, List.nil_append, List.cons_append, List.append_nil, List.append_assoc, List.length_append, List.getElem?_cons_zero, List.getElem?_cons_succ, List.drop_succ_cons, List.drop_zero, List.drop_nil, List.take_succ_cons, List.take_zero, List.take_nil, List.set_cons_zero, List.set_cons_succ, Nat.zero_add, Nat.add_zero, Nat.zero_mul, Nat.mul_one, Nat.one_mul, Nat.reduceAdd, Nat.reduceMul, Nat.reduceSub, kont_v, AV.cells_i, AV.cells_s, AV.cells_b, AV.cells_agg, AV.cells_sl]
    rw [pFadr_p (r := 0) (st' := 0) (cs := [rv, sk]) (T := I.t 8) (fz := 0) rfl rfl, pLoad_Sf (r := 0) (st' := 0) (cs := [rv, sk]) (T := I.t 8) (fz := 0) rfl rfl (by decide) (by simp)]
    simp only [args0, args1, args2, args3, args4, jn_d, jv_d, jr_d, callK_ret, eCond_b, eGuard_b, pPick_b, pUn_not, eLeave_nil, bAdd_i, bSub_i, bMul_i, bQuo_i, bRem_i, bEql_i, bNeq_i, bLss_i, bLeq_i, bGtr_i, bGeq_i, bEql_s, bNeq_s, bLss_s, pInt_i, pLen_s, pLen_sl, pLen_gr, pLen_ns, pLen_sz, pBuild_d, fillK_nil, cond_true, cond_false, Bool.not_true, Bool.not_false, Bool.cond_self, List.length_nil, List.length_cons, List.nil_append, List.cons_append, List.append_nil, List.append_assoc, List.length_append, List.getElem?_cons_zero, List.getElem?_cons_succ, List.drop_succ_cons, List.drop_zero, List.drop_nil, List.take_succ_cons, List.take_zero, List.take_nil, List.set_cons_zero, List.set_cons_succ, Nat.zero_add, Nat.add_zero, Nat.zero_mul, Nat.mul_one, Nat.one_mul, Nat.reduceAdd, Nat.reduceMul, Nat.reduceSub, kont_v, AV.cells_i, AV.cells_s, AV.cells_b, AV.cells_agg, AV.cells_sl, encRule.pLen_v hr]
    exact hs'
  rw [this]
  exact Tot.ret ⟨_, .clo _ (by simp only [Fla, FlaL, and_self]), rfl⟩
end
end Hb
end

section
set_option linter.unusedVariables false
set_option linter.unusedSimpArgs false
set_option linter.constructorNameAsVariable false
set_option autoImplicit false
set_option linter.unusedVariables false
set_option linter.unusedSimpArgs false
set_option linter.constructorNameAsVariable false
namespace Hb
open Go
section
variable (I : Ids) (isOk : List AV → Bool)
def skipF : List AV → Option AV
  | [.agg [rv, sk], t, .i .i64 z] => match encRule.decS rv, encS.decS sk, encR32.decS t with
    | some _, some [], some l => if 0 ≤ z ∧ z ≤ l.length then some (.b false) else none
    | _, _, _ => none
  | _ => none
theorem skip_c {R R1 R2 : Rec} (h1 : ∀ args s, R.f (I.f 18) args s = B_CFS I R1 args s) (h2 : ∀ args s, R1.f (I.f 28) args s = B_IFS I R2 args s) (as : List AV) (v : AV) (h : skipF as = some v) :
    Tot (fun v0 s0 => ∃ v', Inl Fla s0.st.1 v0 v' ∧ v' = v) (B_Skipped I R as (S [] 0)) := by
  unfold skipF at h
  split at h
  case h_2 => cases h
  rename_i rv sk t z
  split at h
  case h_2 => cases h
  rename_i rs l hr hk ht
  split at h
  case isFalse => cases h
  rename_i hz
  cases h
  have hd1 : decide (z < 0) = false := by simp; omega
  have hd2 : decide ((l.length : Int) < z) = false := by simp; omega
  have : B_Skipped I R [.agg [rv, sk], t, .i .i64 z] (S [] 0) = some (.ret (.b false) (S [some (.cells 0 false (I.t 8) 0 [rv, sk]), some (.cells 1 false (I.t 9) 0 [t]), some (.cells 2 false (I.t 10) 0 [.i .i64 z])] 3)) := by
    unfold B_Skipped
    rw [args3, pBox_S (AV.cells_agg _) (by simp)]
    simp only [args0, args1, args2, args3, args4, jn_d, jv_d, jr_d, callK_ret, eCond_b, eGuard_b, pPick_b, pUn_not, eLeave_nil, bAdd_i, bSub_i, bMul_i, bQuo_i, bRem_i, bEql_i, bNeq_i, bLss_i, bLeq_i, bGtr_i, bGeq_i, bEql_s, bNeq_s, bLss_s, pInt_i, pLen_s, pLen_sl, pLen_gr, pLen_ns, pLen_sz, pBuild_d, fillK_nil, cond_true, cond_false, Bool.not_true, Bool.not_false, Bool.cond_self, List.length_nil, List.length_cons, List.nil_append, List.cons_append, List.append_nil, List.append_assoc, List.length_append, List.getElem?_cons_zero, List.getElem?_cons_succ, List.drop_succ_cons, List.drop_zero, List.drop_nil, List.take_succ_cons, List.take_zero, List.take_nil, List.set_cons_zero, List.set_cons_succ, Nat.zero_add, Nat.add_zero, Nat.zero_mul, Nat.mul_one, Nat.one_mul, Nat.reduceAdd, Nat.reduceMul, Nat.reduceSub, kont_v, AV.cells_i, AV.cells_s, AV.cells_b, AV.cells_agg, AV.cells_sl]
    rw [pBox_S (encR32.cells_of ht) (by simp)]
    simp only [args0, args1, args2, args3, args4, jn_d, jv_d, jr_d, callK_ret, eCond_b, eGuard_b, pPick_b, pUn_not, eLeave_nil, bAdd_i, bSub_i, bMul_i, bQuo_i, bRem_i, bEql_i, bNeq_i, bLss_i, bLeq_i, bGtr_i, bGeq_i, bEql_s, bNeq_s, bLss_s, pInt_i, pLen_s, pLen_sl, pLen_gr, pLen_ns, pLen_sz, pBuild_d, fillK_nil, cond_true, cond_false, Bool.not_true, Bool.not_false, Bool.cond_self, List.length_nil, List.length_cons, List.nil_append, List.cons_append, List.append_nil, List.append_assoc, List.length_append, List.getElem?_cons_zero, List.getElem?_cons_succ, List.drop_succ_cons, List.drop_zero, List.drop_nil, List.take_succ_cons, List.take_zero, List.take_nil, List.set_cons_zero, List.set_cons_succ, Nat.zero_add, Nat.add_zero, Nat.zero_mul, Nat.mul_one, Nat.one_mul, Nat.reduceAdd, Nat.reduceMul, Nat.reduceSub, kont_v, AV.cells_i, AV.cells_s, AV.cells_b, AV.cells_agg, AV.cells_sl]
    rw [pBox_S (AV.cells_i _ _) (by simp)]
    simp only [args0, args1, args2, args3, args4, jn_d, jv_d, jr_d, callK_ret, eCond_b, eGuard_b, pPick_b, pUn_not, eLeave_nil, bAdd_i, bSub_i, bMul_i, bQuo_i, bRem_i, bEql_i, bNeq_i, bLss_i, bLeq_i, bGtr_i, bGeq_i, bEql_s, bNeq_s, bLss_s, pInt_i, pLen_s, pLen_sl, pLen_gr, pLen_ns, pLen_sz, pBuild_d, fillK_nil, cond_true, cond_false, Bool.not_true, Bool.not_false, Bool.cond_self, List.length_nil, List.length_cons, List.nil_append, List.cons_append, List.append_nil, List.append_assoc, List.length_append, List.getElem?_cons_zero, List.getElem?_cons_succ, List.drop_succ_cons, List.drop_zero, List.drop_nil, List.take_succ_cons, List.take_zero, List.take_nil, List.set_cons_zero, List.set_cons_succ, Nat.zero_add, Nat.add_zero, Nat.zero_mul, Nat.mul_one, Nat.one_mul, Nat.reduceAdd, Nat.reduceMul, Nat.reduceSub, kont_v, AV.cells_i, AV.cells_s, AV.cells_b, AV.cells_agg, AV.cells_sl]
    have g0 : ([some (.cells 0 false (I.t 8) 0 [rv, sk]), some (.cells 1 false (I.t 9) 0 [t]), some (.cells 2 false (I.t 10) 0 [.i .i64 z])] : List (Option Blk))[0]? = some (some (.cells 0 false (I.t 8) 0 [rv, sk])) := rfl
    have g1 : ([some (.cells 0 false (I.t 8) 0 [rv, sk]), some (.cells 1 false (I.t 9) 0 [t]), some (.cells 2 false (I.t 10) 0 [.i .i64 z])] : List (Option Blk))[1]? = some (some (.cells 1 false (I.t 9) 0 [t])) := rfl
    have g2 : ([some (.cells 0 false (I.t 8) 0 [rv, sk]), some (.cells 1 false (I.t 9) 0 [t]), some (.cells 2 false (I.t 10) 0 [.i .i64 z])] : List (Option Blk))[2]? = some (some (.cells 2 false (I.t 10) 0 [.i .i64 z])) := rfl
    simp (disch := simp) only [args0, args1, args2, args3, args4, jn_d, jv_d, jr_d, callK_ret, eCond_b, eGuard_b, pPick_b, pUn_not, eLeave_nil, bAdd_i, bSub_i, bMul_i, bQuo_i, bRem_i, bEql_i, bNeq_i, bLss_i, bLeq_i, bGtr_i, bGeq_i, bEql_s, bNeq_s, bLss_s, pInt_i, pLen_s, pLen_sl, pLen_gr, pLen_ns, pLen_sz, pBuild_d, fillK_nil, cond_true, cond_false, Bool.not_true, Bool.not_false, Bool.cond_self, List.length_nil, List.length_cons, List.nil_append, List.cons_append, List.append_nil, List.append_assoc, List.length_append, List.getElem?_cons_zero, List.getElem?_cons_succ, List.drop_succ_cons, List.drop_zero, List.drop_nil, List.take_succ_cons, List.take_zero, List.take_nil, List.set_cons_zero, List.set_cons_succ, Nat.zero_add, Nat.add_zero, Nat.zero_mul, Nat.mul_one, Nat.one_mul, Nat.reduceAdd, Nat.reduceMul, Nat.reduceSub, kont_v, AV.cells_i, AV.cells_s, AV.cells_b, AV.cells_agg, AV.cells_sl, pLoad_Sf g2 rfl, pLoad_Sf g1 rfl, pLoad_Sf g0 rfl, hd1, hd2, encR32.pLen_v ht, B_Skippedj1, pFadr_p g0 rfl, h1, B_CFS, h2, B_IFS, encS.pLen_v hk]
    show callK (callK (lp [8] 30000 (B_IFSl4 I R2 (.i .i64 ((([] : List (List Nat)).length : Nat) : Int)) sk (.fn (.func (I.f 19)) [] [.p 2 2 1 0 0, .p 1 1 1 0 0]) (B_IFSj1 I R2)) (.i .i64 0) [] _) _) _ = _
    rw [show (30000 : Nat) = 29999 + 1 from rfl, lp_s]
    simp [B_IFSl4, B_IFSj1, args0, args1, args2, args3, args4, jn_d, jv_d, jr_d, callK_ret, eCond_b, eGuard_b, pPick_b, pUn_not, eLeave_nil, bAdd_i, bSub_i, bMul_i, bQuo_i, bRem_i, bEql_i, bNeq_i, bLss_i, bLeq_i, bGtr_i, bGeq_i, bEql_s, bNeq_s, bLss_s, pInt_i, pLen_s, pLen_sl, pLen_gr, pLen_ns, pLen_sz, pBuild_d, fillK_nil, cond_true, cond_false, Bool.not_true, Bool.not_false, Bool.cond_self, List.length_nil, List.length_cons, List.nil_append, List.cons_append, List.append_nil, List.append_assoc, List.length_append, List.getElem?_cons_zero, List.getElem?_cons_succ, List.drop_succ_cons, List.drop_zero, List.drop_nil, List.take_succ_cons, List.take_zero, List.take_nil, List.set_cons_zero, List.set_cons_succ, Nat.zero_add, Nat.add_zero, Nat.zero_mul, Nat.mul_one, Nat.one_mul, Nat.reduceAdd, Nat.reduceMul, Nat.reduceSub, kont_v, AV.cells_i, AV.cells_s, AV.cells_b, AV.cells_agg, AV.cells_sl]
  rw [this]
  exact Tot.ret ⟨_, .clo _ (by simp only [Fla]), rfl⟩
def midV (rs : List RuleV) (l : List Int) : Nat → Nat → List Nat
  | 0, _ => []
  | n + 1, i => cond (whyV rs l i).2 (i :: midV rs l n (i + 1)) (midV rs l n (i + 1))
def cutsV (rs : List RuleV) (l : List Int) : List Nat := if l = [] then [] else 0 :: (midV rs l (l.length - 1) 1 ++ [l.length])
theorem midV_len (rs : List RuleV) (l : List Int) : ∀ (n i : Nat), (midV rs l n i).length ≤ n
  | 0, _ => Nat.le_refl _
  | n + 1, i => by
    have := midV_len rs l n (i + 1)
    unfold midV
    cases (whyV rs l i).2 <;> simp <;> omega
theorem cuts1_iter {R : Rec} (hw : ∀ args s, R.f (I.f 23) args s = flatOv (whyF isOk) R args s) (hs : ∀ args s, R.f (I.f 24) args s = flatOv skipF R args s) {rv sk t : AV} {rs : List RuleV} {l : List Int} {r st : Nat}
    (hr : encRule.decS rv = some rs) (hk : encS.decS sk = some []) (ht : encR32.decS t = some l) (hok : rulesOk isOk rs = true) (hrl : rs.length < 1000) (hl : l.length < 20000) (Inv : List Int → ES → Prop)
    (hround : ∀ a s z, Inv a s → a.length < 1000000 → ∃ s', Inv (a ++ [z]) s' ∧ ∀ k, eRound R.b r st [.i .i64 z] s k = k (.b true) s') (s : ES) (h0 : Inv [] s) :
    ∃ s', Inv ((cutsV rs l).map fun (n : Nat) => (n : Int)) s' ∧ B_cuts1 I R [.fy r st, .pe [t] 1 0 0, .pe [rv, sk] 2 0 0] s = some (.ret (.tup []) s') := by
  have hct : Clo t := encR32.clo_of ht
  have hcr : Clo rv := encRule.clo_of hr
  have hck : Clo sk := encS.clo_of hk
  have hl1 : ∀ (s : ES) k, pLoad s false 1 (.pe [t] 1 0 0) k = k t := fun s k => by rw [pLoad_pe, loadK_fm (by decide) (by simp)]; rfl
  have hl2 : ∀ (s : ES) k, pLoad s true 2 (.pe [rv, sk] 2 0 0) k = k (.agg [rv, sk]) := fun s k => by rw [pLoad_pe, loadK_t (by decide) (by simp)]; rfl
  have cw : ∀ (s : ES) (i : Nat), i ≤ l.length → R.f (I.f 23) [.agg [rv, sk], t, .i .i64 (i : Nat)] s = some (.ret (.tup [.i .i64 (whyV rs l i).1, .b (whyV rs l i).2]) s) := fun s i hi => by
    rw [hw]
    refine flatOv_c (by simp only [CloL, Clo, and_true]; exact ⟨⟨hcr, hck⟩, hct⟩) ?_
    simp only [whyF, hr, ht, Int.toNat_natCast]
    rw [if_pos ⟨hok, hrl, hl, by omega, by omega⟩]
  have cs : ∀ (s : ES) (i : Nat), i ≤ l.length → R.f (I.f 24) [.agg [rv, sk], t, .i .i64 (i : Nat)] s = some (.ret (.b false) s) := fun s i hi => by
    rw [hs]
    refine flatOv_c (by simp only [CloL, Clo, and_true]; exact ⟨⟨hcr, hck⟩, hct⟩) ?_
    simp only [skipF, hr, hk, ht]
    rw [if_pos ⟨by omega, by omega⟩]
  have key : ∀ (n i fuel : Nat) (a : List Int) (s : ES), n + i = l.length → n < fuel → Inv a s → a.length ≤ i → 
      ∃ s', Inv (a ++ ((midV rs l n i ++ [l.length]).map fun (n : Nat) => (n : Int))) s' ∧ lp [4] fuel (B_cuts1l4 I R (.pe [rv, sk] 2 0 0) (.pe [t] 1 0 0) (.fy r st) (B_cuts1j1 I R (.pe [t] 1 0 0) (.fy r st))) (.i .i64 (i : Nat)) [] s = some (.ret (.tup []) s') := by
    intro n
    induction n with
    | zero =>
      intro i fuel a s hi hf ha hal
      cases fuel with
      | zero => omega
      | succ f =>
        obtain ⟨s', h1, h2⟩ := hround a s (l.length : Nat) ha (by omega)
        refine ⟨s', by simpa [midV] using h1, ?_⟩
        rw [lp_s]
        have hd : decide ((i : Int) < (l.length : Int)) = false := by simp; omega
        simp only [B_cuts1l4, B_cuts1j1, args0, args1, args2, args3, args4, jn_d, jv_d, jr_d, callK_ret, eCond_b, eGuard_b, pPick_b, pUn_not, eLeave_nil, bAdd_i, bSub_i, bMul_i, bQuo_i, bRem_i, bEql_i, bNeq_i, bLss_i, bLeq_i, bGtr_i, bGeq_i, bEql_s, bNeq_s, bLss_s, pInt_i, pLen_s, pLen_sl, pLen_gr, pLen_ns, pLen_sz, pBuild_d, fillK_nil, cond_true, cond_false, Bool.not_true, Bool.not_false, Bool.cond_self, List.length_nil, List.length_cons, List.nil_append, List.cons_append, List.append_nil, List.append_assoc, List.length_append, List.getElem?_cons_zero, List.getElem?_cons_succ, List.drop_succ_cons, List.drop_zero, List.drop_nil, List.take_succ_cons, List.take_zero, List.take_nil, List.set_cons_zero, List.set_cons_succ, Nat.zero_add, Nat.add_zero, Nat.zero_mul, Nat.mul_one, Nat.one_mul, Nat.reduceAdd, Nat.reduceMul, Nat.reduceSub, kont_v, AV.cells_i, AV.cells_s, AV.cells_b, AV.cells_agg, AV.cells_sl, hl1, encR32.pLen_v ht, hd, eCallV_fy, h2]
    | succ n ih =>
      intro i fuel a s hi hf ha hal
      cases fuel with
      | zero => omega
      | succ f =>
        have ih' := fun a s ha hal => ih (i + 1) f a s (by omega) (by omega) ha hal
        rw [lp_s]
        generalize lp [4] f _ = K at ih' ⊢
        have hd : decide ((i : Int) < (l.length : Int)) = true := by simp; omega
        have hwr : IntKind.i64.wrap ((i : Nat) + 1 : Int) = ((i + 1 : Nat) : Int) := by rw [wrap64 (by omega) (by omega)]; omega
        simp only [B_cuts1l4, B_cuts1j3, B_cuts1j2, args0, args1, args2, args3, args4, jn_d, jv_d, jr_d, callK_ret, eCond_b, eGuard_b, pPick_b, pUn_not, eLeave_nil, bAdd_i, bSub_i, bMul_i, bQuo_i, bRem_i, bEql_i, bNeq_i, bLss_i, bLeq_i, bGtr_i, bGeq_i, bEql_s, bNeq_s, bLss_s, pInt_i, pLen_s, pLen_sl, pLen_gr, pLen_ns, pLen_sz, pBuild_d, fillK_nil, cond_true, cond_false, Bool.not_true, Bool.not_false, Bool.cond_self, List.length_nil, List.length_cons, List.nil_append, List.cons_append, List.append_nil, List.append_assoc, List.length_append, List.getElem?_cons_zero, List.getElem?_cons_succ, List.drop_succ_cons, List.drop_zero, List.drop_nil, List.take_succ_cons, List.take_zero, List.take_nil, List.set_cons_zero, List.set_cons_succ, Nat.zero_add, Nat.add_zero, Nat.zero_mul, Nat.mul_one, Nat.one_mul, Nat.reduceAdd, Nat.reduceMul, Nat.reduceSub, kont_v, AV.cells_i, AV.cells_s, AV.cells_b, AV.cells_agg, AV.cells_sl, hl1, hl2, encR32.pLen_v ht, hd, cw s i (by omega)]
        rw [pExt_t rfl, pExt_t rfl]
        unfold midV
        cases hy : (whyV rs l i).2 with
        | false =>
          obtain ⟨s', h1, h2⟩ := ih' a s ha (by omega)
          refine ⟨s', by simpa using h1, ?_⟩
          simp only [args0, args1, args2, args3, args4, jn_d, jv_d, jr_d, callK_ret, eCond_b, eGuard_b, pPick_b, pUn_not, eLeave_nil, bAdd_i, bSub_i, bMul_i, bQuo_i, bRem_i, bEql_i, bNeq_i, bLss_i, bLeq_i, bGtr_i, bGeq_i, bEql_s, bNeq_s, bLss_s, pInt_i, pLen_s, pLen_sl, pLen_gr, pLen_ns, pLen_sz, pBuild_d, fillK_nil, cond_true, cond_false, Bool.not_true, Bool.not_false, Bool.cond_self, List.length_nil, List.length_cons, List.nil_append, List.cons_append, List.append_nil, List.append_assoc, List.length_append, List.getElem?_cons_zero, List.getElem?_cons_succ, List.drop_succ_cons, List.drop_zero, List.drop_nil, List.take_succ_cons, List.take_zero, List.take_nil, List.set_cons_zero, List.set_cons_succ, Nat.zero_add, Nat.add_zero, Nat.zero_mul, Nat.mul_one, Nat.one_mul, Nat.reduceAdd, Nat.reduceMul, Nat.reduceSub, kont_v, AV.cells_i, AV.cells_s, AV.cells_b, AV.cells_agg, AV.cells_sl, hwr]
          exact h2
        | true =>
          obtain ⟨s1, h1, h2⟩ := hround a s (i : Nat) ha (by omega)
          obtain ⟨s', h3, h4⟩ := ih' (a ++ [(i : Int)]) s1 h1 (by simp; omega)
          refine ⟨s', by simpa using h3, ?_⟩
          simp only [args0, args1, args2, args3, args4, jn_d, jv_d, jr_d, callK_ret, eCond_b, eGuard_b, pPick_b, pUn_not, eLeave_nil, bAdd_i, bSub_i, bMul_i, bQuo_i, bRem_i, bEql_i, bNeq_i, bLss_i, bLeq_i, bGtr_i, bGeq_i, bEql_s, bNeq_s, bLss_s, pInt_i, pLen_s, pLen_sl, pLen_gr, pLen_ns, pLen_sz, pBuild_d, fillK_nil, cond_true, cond_false, Bool.not_true, Bool.not_false, Bool.cond_self, List.length_nil, List.length_cons, List.nil_append, List.cons_append, List.append_nil, List.append_assoc, List.length_append, List.getElem?_cons_zero, List.getElem?_cons_succ, List.drop_succ_cons, List.drop_zero, List.drop_nil, List.take_succ_cons, List.take_zero, List.take_nil, List.set_cons_zero, List.set_cons_succ, Nat.zero_add, Nat.add_zero, Nat.zero_mul, Nat.mul_one, Nat.one_mul, Nat.reduceAdd, Nat.reduceMul, Nat.reduceSub, kont_v, AV.cells_i, AV.cells_s, AV.cells_b, AV.cells_agg, AV.cells_sl, hl1, hl2, cs s i (by omega), eCallV_fy, h2, hwr]
          exact h4
  unfold B_cuts1
  simp only [args0, args1, args2, args3, args4, jn_d, jv_d, jr_d, callK_ret, eCond_b, eGuard_b, pPick_b, pUn_not, eLeave_nil, bAdd_i, bSub_i, bMul_i, bQuo_i, bRem_i, bEql_i, bNeq_i, bLss_i, bLeq_i, bGtr_i, bGeq_i, bEql_s, bNeq_s, bLss_s, pInt_i, pLen_s, pLen_sl, pLen_gr, pLen_ns, pLen_sz, pBuild_d, fillK_nil, cond_true, cond_false, Bool.not_true, Bool.not_false, Bool.cond_self, List.length_nil, List.length_cons, List.nil_append, List.cons_append, List.append_nil, List.append_assoc, List.length_append, List.getElem?_cons_zero, List.getElem?_cons_succ, List.drop_succ_cons, List.drop_zero, List.drop_nil, List.take_succ_cons, List.take_zero, List.take_nil, List.set_cons_zero, List.set_cons_succ, Nat.zero_add, Nat.add_zero, Nat.zero_mul, Nat.mul_one, Nat.one_mul, Nat.reduceAdd, Nat.reduceMul, Nat.reduceSub, kont_v, AV.cells_i, AV.cells_s, AV.cells_b, AV.cells_agg, AV.cells_sl, hl1, encR32.pLen_v ht]
  unfold cutsV
  by_cases he : l = []
  · subst he
    refine ⟨s, by simpa using h0, ?_⟩
    simp [args0, args1, args2, args3, args4, jn_d, jv_d, jr_d, callK_ret, eCond_b, eGuard_b, pPick_b, pUn_not, eLeave_nil, bAdd_i, bSub_i, bMul_i, bQuo_i, bRem_i, bEql_i, bNeq_i, bLss_i, bLeq_i, bGtr_i, bGeq_i, bEql_s, bNeq_s, bLss_s, pInt_i, pLen_s, pLen_sl, pLen_gr, pLen_ns, pLen_sz, pBuild_d, fillK_nil, cond_true, cond_false, Bool.not_true, Bool.not_false, Bool.cond_self, List.length_nil, List.length_cons, List.nil_append, List.cons_append, List.append_nil, List.append_assoc, List.length_append, List.getElem?_cons_zero, List.getElem?_cons_succ, List.drop_succ_cons, List.drop_zero, List.drop_nil, List.take_succ_cons, List.take_zero, List.take_nil, List.set_cons_zero, List.set_cons_succ, Nat.zero_add, Nat.add_zero, Nat.zero_mul, Nat.mul_one, Nat.one_mul, Nat.reduceAdd, Nat.reduceMul, Nat.reduceSub, kont_v, AV.cells_i, AV.cells_s, AV.cells_b, AV.cells_agg, AV.cells_sl]
  · have hpos : 0 < l.length := List.length_pos_iff.2 he
    have hd : decide (((l.length : Nat) : Int) = 0) = false := by simp; exact he
    obtain ⟨s1, h1, h2⟩ := hround [] s 0 h0 (by simp)
    obtain ⟨s', h3, h4⟩ := key (l.length - 1) 1 30000 [0] s1 (by omega) (by omega) h1 (by simp)
    refine ⟨s', by rw [if_neg he]; simpa using h3, ?_⟩
    simp only [hd, args0, args1, args2, args3, args4, jn_d, jv_d, jr_d, callK_ret, eCond_b, eGuard_b, pPick_b, pUn_not, eLeave_nil, bAdd_i, bSub_i, bMul_i, bQuo_i, bRem_i, bEql_i, bNeq_i, bLss_i, bLeq_i, bGtr_i, bGeq_i, bEql_s, bNeq_s, bLss_s, pInt_i, pLen_s, pLen_sl, pLen_gr, pLen_ns, pLen_sz, pBuild_d, fillK_nil, cond_true, cond_false, Bool.not_true, Bool.not_false, Bool.cond_self, List.length_nil, List.length_cons, List.nil_append, List.cons_append, List.append_nil, List.append_assoc, List.length_append, List.getElem?_cons_zero, List.getElem?_cons_succ, List.drop_succ_cons, List.drop_zero, List.drop_nil, List.take_succ_cons, List.take_zero, List.take_nil, List.set_cons_zero, List.set_cons_succ, Nat.zero_add, Nat.add_zero, Nat.zero_mul, Nat.mul_one, Nat.one_mul, Nat.reduceAdd, Nat.reduceMul, Nat.reduceSub, kont_v, AV.cells_i, AV.cells_s, AV.cells_b, AV.cells_agg, AV.cells_sl, eCallV_fy, h2, B_cuts1j5]
    exact h4
def cutsG : List AV → Option (List Int)
  | [.fn (.func k) [] [.pe [t] 1 0 0, .pe [rv, sk] 2 0 0]] => if k = I.f 22 then (match encRule.decS rv, encS.decS sk, encR32.decS t with
    | some rs, some [], some l => if rulesOk isOk rs = true ∧ rs.length < 1000 ∧ l.length < 20000 then some ((cutsV rs l).map fun (n : Nat) => (n : Int)) else none
    | _, _, _ => none) else none
  | _ => none
theorem cutsG_ok {R1 R2 : Rec} (h2 : ∀ args s, R1.h (I.f 22) args s = B_cuts1 I R2 args s) (hw : ∀ args s, R2.f (I.f 23) args s = flatOv (whyF isOk) R2 args s) (hs : ∀ args s, R2.f (I.f 24) args s = flatOv skipF R2 args s)
    (as : List AV) (seq : List Int) (h : cutsG I isOk as = some seq) :
    ∃ g caps, as = [.fn (.func g) [] caps] ∧ ∀ (Inv : List Int → ES → Prop), (∀ a s z, Inv a s → a.length < 1000000 → ∃ s', Inv (a ++ [z]) s' ∧ ∀ k, eRound R2.b 2 2 [.i .i64 z] s k = k (.b true) s') → ∀ s, Inv [] s → ∃ s', Inv seq s' ∧ R1.h g (.fy 2 2 :: caps) s = some (.ret (.tup []) s') := by
  unfold cutsG at h
  split at h
  case h_2 => cases h
  rename_i k t rv sk
  split at h
  case isFalse => cases h
  rename_i hk
  split at h
  case h_2 => cases h
  rename_i rs l e1 e2 e3
  split at h
  case isFalse => cases h
  rename_i hc
  cases h
  subst hk
  refine ⟨_, _, rfl, fun Inv hr s h0 => ?_⟩
  obtain ⟨s', q1, q2⟩ := cuts1_iter I isOk (R := R2) (r := 2) (st := 2) hw hs e1 e2 e3 hc.1 hc.2.1 hc.2.2 Inv hr s h0
  exact ⟨s', q1, by rw [h2]; exact q2⟩
end
end Hb
end

section
set_option linter.unusedVariables false
set_option linter.unusedSimpArgs false
set_option linter.constructorNameAsVariable false
set_option autoImplicit false
set_option linter.unusedVariables false
set_option linter.unusedSimpArgs false
set_option linter.constructorNameAsVariable false
namespace Hb
open Go
section
variable (I : Ids) (isOk : List AV → Bool) (isBk : List AV → Bool)
def CutsF : List AV → Option (Nat × Nat × Nat × List AV)
  | [.agg [rv, sk], t] => match encRule.decS rv, encS.decS sk, encR32.decS t with
    | some rs, some [], some l => if isBk [rv, sk] = true ∧ rulesOk isOk rs = true ∧ rs.length < 1000 ∧ l.length < 20000 then some (I.t 10, (cutsV rs l).length, 1, ((cutsV rs l).map fun (n : Nat) => (n : Int)).map (.i .i64)) else none
    | _, _, _ => none
  | _ => none
theorem Cuts_c {R : Rec} (hbk : ∀ b, isBk b = true → ∀ s, R.f (I.f 26) [.agg b] s = some (.ret (.b true) s)) (hcuts : ∀ args s, R.f (I.f 25) args s = B_cuts I R args s) {G : List AV → Option (List Int)} (hGc : ∀ as seq, cutsG I isOk as = some seq → G as = some seq)
    (hcoll : ∀ args s, R.f (I.f 13) args s = rowOv (collF I G) R args s) (as : List AV) (T n k : Nat) (cs : List AV) (h : CutsF I isOk isBk as = some (T, n, k, cs)) :
    (n = 0 → Tot (fun v _ => v = .ns) (B_Cuts I R as (S [] 0))) ∧ (n ≠ 0 → Tot (IsRow Fla T n k cs) (B_Cuts I R as (S [] 0))) := by
  unfold CutsF at h
  split at h
  case h_2 => cases h
  rename_i rv sk t
  split at h
  case h_2 => cases h
  rename_i rs l hr hk ht
  split at h
  case isFalse => cases h
  rename_i hc
  obtain ⟨hbk1, hok, hrl, hl⟩ := hc
  cases h
  have hct : Clo t := encR32.clo_of ht
  have hcr : Clo rv := encRule.clo_of hr
  have hck : Clo sk := encS.clo_of hk
  let σ : List (Option Blk) := [some (.cells 0 false (I.t 8) 0 [rv, sk]), some (.cells 1 false (I.t 8) 0 [rv, sk]), some (.cells 2 false (I.t 9) 0 [t])]
  have hin : mapO (inlN 4 (S σ 3)) [.fn (.func (I.f 22)) [] [.p 2 2 1 0 0, .p 1 1 2 0 0]] = some [.fn (.func (I.f 22)) [] [.pe [t] 1 0 0, .pe [rv, sk] 2 0 0]] := by
    refine mapO_c (inlN_fn rfl rfl (mapO_c (inlN_p (cs := [t]) (st' := 2) (T := I.t 9) (fz := 0) rfl rfl (mapO_clo (by simp only [CloL, and_true]; exact hct))) (mapO_c (inlN_p (cs := [rv, sk]) (st' := 1) (T := I.t 8) (fz := 0) rfl rfl (mapO_clo (by simp only [CloL, and_true]; exact ⟨hcr, hck⟩))) rfl))) rfl
  have hlen : (cutsV rs l).length ≤ l.length + 1 := by
    unfold cutsV
    split
    · simp
    · have := midV_len rs l (l.length - 1) 1
      have hpos : 0 < l.length := List.length_pos_iff.2 (by assumption)
      simp; omega
  have hcF : collF I G [.fn (.func (I.f 22)) [] [.pe [t] 1 0 0, .pe [rv, sk] 2 0 0]] = some (I.t 10, (cutsV rs l).length, 1, ((cutsV rs l).map fun (n : Nat) => (n : Int)).map (.i .i64)) := by
    unfold collF
    have := hGc [.fn (.func (I.f 22)) [] [.pe [t] 1 0 0, .pe [rv, sk] 2 0 0]] _ (by simp only [cutsG, if_true, hr, hk, ht]; rw [if_pos ⟨hok, hrl, hl⟩])
    rw [this]
    simp only [List.length_map]
    rw [if_pos (by omega)]
  have main : ∀ Φ : AV → ES → Prop, Tot Φ (R.f (I.f 13) [.fn (.func (I.f 22)) [] [.p 2 2 1 0 0, .p 1 1 2 0 0]] (S σ 3)) → Tot Φ (B_Cuts I R [.agg [rv, sk], t] (S [] 0)) := by
    intro Φ hΦ
    unfold B_Cuts
    rw [args2, pBox_S (AV.cells_agg _) (by simp)]
    simp only [args0, args1, args2, args3, args4, jn_d, jv_d, jr_d, callK_ret, eCond_b, eGuard_b, pPick_b, pUn_not, eLeave_nil, bAdd_i, bSub_i, bMul_i, bQuo_i, bRem_i, bEql_i, bNeq_i, bLss_i, bLeq_i, bGtr_i, bGeq_i, bEql_s, bNeq_s, bLss_s, pInt_i, pLen_s, pLen_sl, pLen_gr, pLen_ns, pLen_sz, pBuild_d, fillK_nil, cond_true, cond_false, Bool.not_true, Bool.not_false, Bool.cond_self, List.length_nil, List.length_cons, List.nil_append, List.cons_append, List.append_nil, List.append_assoc, List.length_append, List.getElem?_cons_zero, List.getElem?_cons_succ, List.drop_succ_cons, List.drop_zero, List.drop_nil, List.take_succ_cons, List.take_zero, List.take_nil, List.set_cons_zero, List.set_cons_succ, Nat.zero_add, Nat.add_zero, Nat.zero_mul, Nat.mul_one, Nat.one_mul, Nat.reduceAdd, Nat.reduceMul, Nat.reduceSub, kont_v, AV.cells_i, AV.cells_s, AV.cells_b, AV.cells_agg, AV.cells_sl]
    rw [pLoad_St (r := 0) (st' := 0) (cs := [rv, sk]) (T := I.t 8) (fz := 0) rfl rfl (by decide) (by simp)]
    simp only [args0, args1, args2, args3, args4, jn_d, jv_d, jr_d, callK_ret, eCond_b, eGuard_b, pPick_b, pUn_not, eLeave_nil, bAdd_i, bSub_i, bMul_i, bQuo_i, bRem_i, bEql_i, bNeq_i, bLss_i, bLeq_i, bGtr_i, bGeq_i, bEql_s, bNeq_s, bLss_s, pInt_i, pLen_s, pLen_sl, pLen_gr, pLen_ns, pLen_sz, pBuild_d, fillK_nil, cond_true, cond_false, Bool.not_true, Bool.not_false, Bool.cond_self, List.length_nil, List.length_cons, List.nil_append, List.cons_append, List.append_nil, List.append_assoc, List.length_append, List.getElem?_cons_zero, List.getElem?_cons_succ, List.drop_succ_cons, List.drop_zero, List.drop_nil, List.take_succ_cons, List.take_zero, List.take_nil, List.set_cons_zero, List.set_cons_succ, Nat.zero_add, Nat.add_zero, Nat.zero_mul, Nat.mul_one, Nat.one_mul, Nat.reduceAdd, Nat.reduceMul, Nat.reduceSub, kont_v, AV.cells_i, AV.cells_s, AV.cells_b, AV.cells_agg, AV.cells_sl, hbk _ hbk1, B_Cutsj1]
    rw [pLoad_St (r := 0) (st' := 0) (cs := [rv, sk]) (T := I.t 8) (fz := 0) rfl rfl (by decide) (by simp)]
    simp only [args0, args1, args2, args3, args4, jn_d, jv_d, jr_d, callK_ret, eCond_b, eGuard_b, pPick_b, pUn_not, eLeave_nil, bAdd_i, bSub_i, bMul_i, bQuo_i, bRem_i, bEql_i, bNeq_i, bLss_i, bLeq_i, bGtr_i, bGeq_i, bEql_s, bNeq_s, bLss_s, pInt_i, pLen_s, pLen_sl, pLen_gr, pLen_ns, pLen_sz, pBuild_d, fillK_nil, cond_true, cond_false, Bool.not_true, Bool.not_false, Bool.cond_self, List.length_nil, List.length_cons, List.nil_append, List.cons_append, List.append_nil, List.append_assoc, List.length_append, List.getElem?_cons_zero, List.getElem?_cons_succ, List.drop_succ_cons, List.drop_zero, List.drop_nil, List.take_succ_cons, List.take_zero, List.take_nil, List.set_cons_zero, List.set_cons_succ, Nat.zero_add, Nat.add_zero, Nat.zero_mul, Nat.mul_one, Nat.one_mul, Nat.reduceAdd, Nat.reduceMul, Nat.reduceSub, kont_v, AV.cells_i, AV.cells_s, AV.cells_b, AV.cells_agg, AV.cells_sl, hcuts]
    unfold B_cuts
    rw [args2, pBox_S (AV.cells_agg _) (by simp)]
    simp only [args0, args1, args2, args3, args4, jn_d, jv_d, jr_d, callK_ret, eCond_b, eGuard_b, pPick_b, pUn_not, eLeave_nil, bAdd_i, bSub_i, bMul_i, bQuo_i, bRem_i, bEql_i, bNeq_i, bLss_i, bLeq_i, bGtr_i, bGeq_i, bEql_s, bNeq_s, bLss_s, pInt_i, pLen_s, pLen_sl, pLen_gr, pLen_ns, pLen_sz, pBuild_d, fillK_nil, cond_true, cond_false, Bool.not_true, Bool.not_false, Bool.cond_self, List.length_nil, List.length_cons, List.nil_append, List.cons_append, List.append_nil, List.append_assoc, List.length_append, List.getElem?_cons_zero, List.getElem?_cons_succ, List.drop_succ_cons, List.drop_zero, List.drop_nil, List.take_succ_cons, List.take_zero, List.take_nil, List.set_cons_zero, List.set_cons_succ, Nat.zero_add, Nat.add_zero, Nat.zero_mul, Nat.mul_one, Nat.one_mul, Nat.reduceAdd, Nat.reduceMul, Nat.reduceSub, kont_v, AV.cells_i, AV.cells_s, AV.cells_b, AV.cells_agg, AV.cells_sl]
    rw [pBox_S (encR32.cells_of ht) (by simp)]
    simp only [args0, args1, args2, args3, args4, jn_d, jv_d, jr_d, callK_ret, eCond_b, eGuard_b, pPick_b, pUn_not, eLeave_nil, bAdd_i, bSub_i, bMul_i, bQuo_i, bRem_i, bEql_i, bNeq_i, bLss_i, bLeq_i, bGtr_i, bGeq_i, bEql_s, bNeq_s, bLss_s, pInt_i, pLen_s, pLen_sl, pLen_gr, pLen_ns, pLen_sz, pBuild_d, fillK_nil, cond_true, cond_false, Bool.not_true, Bool.not_false, Bool.cond_self, List.length_nil, List.length_cons, List.nil_append, List.cons_append, List.append_nil, List.append_assoc, List.length_append, List.getElem?_cons_zero, List.getElem?_cons_succ, List.drop_succ_cons, List.drop_zero, List.drop_nil, List.take_succ_cons, List.take_zero, List.take_nil, List.set_cons_zero, List.set_cons_succ, Nat.zero_add, Nat.add_zero, Nat.zero_mul, Nat.mul_one, Nat.one_mul, Nat.reduceAdd, Nat.reduceMul, Nat.reduceSub, kont_v, AV.cells_i, AV.cells_s, AV.cells_b, AV.cells_agg, AV.cells_sl]
    refine Tot.call hΦ fun v s hv => ?_
    exact Tot.ret hv
  have hcr2 := hcoll [.fn (.func (I.f 22)) [] [.p 2 2 1 0 0, .p 1 1 2 0 0]] (S σ 3)
  refine ⟨fun hn => main _ ?_, fun hn => main _ ?_⟩
  · rw [hcr2, rowOv_0 hin (by rw [hcF, hn])]
    exact Tot.ret rfl
  · rw [hcr2, rowOv_S hin hcF hn (by simp [σ])]
    refine Tot.ret ⟨_, _, 3, _, rfl, ?_, InlL.same ?_⟩
    · rw [S_st]
      exact Store.at_of (by simp) rfl
    · rw [FlaL_iff]
      intro y hy
      obtain ⟨b, _, rfl⟩ := List.mem_map.1 hy
      simp only [Fla]
end
theorem trues_none : ∀ (n i : Nat), trues (List.replicate n false) i = []
  | 0, _ => rfl
  | n + 1, i => by rw [List.replicate_succ]; exact trues_none n (i + 1)
theorem trues_set : ∀ (n j i : Nat), j < n → trues ((List.replicate n false).set j true) i = [i + j]
  | 0, j, i, h => absurd h (by simp)
  | n + 1, 0, i, h => by
    rw [List.replicate_succ, List.set_cons_zero]
    show i :: trues (List.replicate n false) (i + 1) = _
    rw [trues_none]; rfl
  | n + 1, j + 1, i, h => by
    rw [List.replicate_succ, List.set_cons_succ]
    show trues ((List.replicate n false).set j true) (i + 1) = _
    rw [trues_set n j (i + 1) (by omega)]
    congr 1; omega
theorem trues_ind {n i : Nat} (h : i ≤ n) : trues (indV n i) 0 = [i] := by
  unfold indV
  rw [trues_set _ _ _ (by omega)]; simp
def fitsV (e : Side) (l : List Int) (i : Nat) (back : Bool) : Bool := match e with
  | .none => true
  | .set s => cond back (decide (0 < i) && hasR s ((l[i - 1]?).getD 0)) (decide (i < l.length) && hasR s ((l[i]?).getD 0))
theorem leadsV_eq (e : Side) (l : List Int) (i : Nat) (back : Bool) (hi : i ≤ l.length) : ∃ x, leadsV e l i back = cond (fitsV e l i back) [x] [] := by
  cases e with
  | none => exact ⟨i, by simp [leadsV, fitsV, trues_ind hi]⟩
  | set s =>
    have hset : ∀ j, j ≤ l.length → trues ((List.replicate (l.length + 1) false).set j true) 0 = [j] := fun j hj => by rw [trues_set _ _ _ (by omega)]; simp
    have hnone : trues (List.replicate (l.length + 1) false) 0 = [] := trues_none _ _
    have h1 : leadsV (.set s) l i back = trues (markV l back s (List.replicate (l.length + 1) false) i) 0 := by simp only [leadsV, oneV, trues_ind hi, List.foldl_cons, List.foldl_nil]
    rw [h1]
    cases back with
    | true =>
      by_cases h0 : i = 0
      · subst h0; exact ⟨0, by simp [markV, stepV, fitsV, hnone]⟩
      · have e1 : stepV l true i = ((l[i - 1]?).getD 0, (i : Int) - 1, true) := by simp [stepV, h0]
        have e2 : fitsV (.set s) l i true = hasR s ((l[i - 1]?).getD 0) := by simp [fitsV]; omega
        refine ⟨i - 1, ?_⟩
        rw [e2]
        unfold markV
        rw [e1]
        simp only [Bool.true_and]
        cases hasR s ((l[i - 1]?).getD 0) with
        | false => simp only [cond_false, hnone]
        | true => simp only [cond_true]; rw [show ((i : Int) - 1).toNat = i - 1 from by omega, hset _ (by omega)]
    | false =>
      by_cases h0 : i = l.length
      · subst h0; exact ⟨0, by simp [markV, stepV, fitsV, hnone]⟩
      · have e1 : stepV l false i = ((l[i]?).getD 0, (i : Int) + 1, true) := by simp [stepV, h0]
        have e2 : fitsV (.set s) l i false = hasR s ((l[i]?).getD 0) := by simp [fitsV]; omega
        refine ⟨i + 1, ?_⟩
        rw [e2]
        unfold markV
        rw [e1]
        simp only [Bool.true_and]
        cases hasR s ((l[i]?).getD 0) with
        | false => simp only [cond_false, hnone]
        | true => simp only [cond_true]; rw [show ((i : Int) + 1).toNat = i + 1 from by omega, hset _ (by omega)]
theorem leadsV_fits (e : Side) (l : List Int) (i : Nat) (back : Bool) (hi : i ≤ l.length) : decide (0 < (leadsV e l i back).length) = fitsV e l i back := by
  obtain ⟨x, hx⟩ := leadsV_eq e l i back hi
  rw [hx]
  cases fitsV e l i back <;> simp
def cutV (rs : List RuleV) (l : List Int) (i : Nat) : Bool := match rs.find? fun a => fitsV a.l l i true && fitsV a.r l i false with
  | some a => a.br
  | none => true
theorem whyV_cut {l : List Int} {i : Nat} (hi : i ≤ l.length) : ∀ (rs : List RuleV), (whyV rs l i).2 = cutV rs l i
  | [] => rfl
  | a :: rs => by
    have ih := whyV_cut hi rs
    unfold whyV cutV
    rw [leadsV_fits _ _ _ _ hi, leadsV_fits _ _ _ _ hi, List.find?_cons]
    cases hf : (fitsV a.l l i true && fitsV a.r l i false) with
    | true => simp
    | false => simp only [cond_false]; rw [ih]; rfl
theorem midV_filter {rs : List RuleV} {l : List Int} : ∀ (n i : Nat), i + n ≤ l.length + 1 → midV rs l n i = (List.range' i n).filter (cutV rs l)
  | 0, i, h => rfl
  | n + 1, i, h => by
    unfold midV
    rw [midV_filter n (i + 1) (by omega), whyV_cut (by omega), List.range'_succ, List.filter_cons]
    cases cutV rs l i <;> simp
theorem cutsV_eq {rs : List RuleV} {l : List Int} (h : l ≠ []) : cutsV rs l = 0 :: ((List.range' 1 (l.length - 1)).filter (cutV rs l) ++ [l.length]) := by
  have hpos : 0 < l.length := List.length_pos_iff.2 h
  unfold cutsV
  rw [if_neg h, midV_filter _ _ (by omega)]
end Hb
end
