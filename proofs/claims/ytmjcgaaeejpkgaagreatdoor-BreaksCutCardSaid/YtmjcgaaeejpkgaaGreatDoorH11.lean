/- A layer for programs of small data: values, stores, code, and an evaluator of code that the kernel runs; part 11. -/
import Derived.Test.YtmjcgaaeejpkgaaGreatDoorH10

section
set_option linter.unusedVariables false
set_option linter.unusedSimpArgs false
set_option linter.constructorNameAsVariable false
set_option autoImplicit false
set_option linter.unusedVariables false
set_option linter.unusedSimpArgs false
set_option linter.constructorNameAsVariable false
namespace Hb
open Go
theorem TR.wv_wv (v w : Option Blk) (t : TR) : TR.wv v (TR.wv w t) = TR.wv v t := by cases t <;> rfl
theorem TR.ch_wv (v : Option Blk) (d : Dg) (t : TR) : TR.ch d (TR.wv v t) = TR.ch d t := by cases t <;> cases d <;> rfl
theorem TR.ch_wc (t : TR) (d : Dg) (z : TR) : TR.ch d (TR.wc t d z) = z := by cases t <;> cases d <;> rfl
theorem TR.ch_wc_ne (t : TR) {d d' : Dg} (z : TR) (h : d' ≠ d) : TR.ch d' (TR.wc t d z) = TR.ch d' t := by cases t <;> cases d <;> cases d' <;> first | rfl | exact absurd rfl h
theorem TR.wc_wc (t : TR) (d : Dg) (z z' : TR) : TR.wc (TR.wc t d z) d z' = TR.wc t d z' := by cases t <;> cases d <;> rfl
theorem TR.wc_wc_ne (t : TR) {d d' : Dg} (z z' : TR) (h : d' ≠ d) : TR.wc (TR.wc t d z) d' z' = TR.wc (TR.wc t d' z') d z := by cases t <;> cases d <;> cases d' <;> first | rfl | exact absurd rfl h
theorem TR.wc_wv (v : Option Blk) (t : TR) (d : Dg) (z : TR) : TR.wc (TR.wv v t) d z = TR.wv v (TR.wc t d z) := by cases t <;> cases d <;> rfl
theorem TR.setP_setP (v w : Option Blk) : ∀ (p : List Dg) (t : TR), TR.setP v p (TR.setP w p t) = TR.setP v p t
  | [], t => TR.wv_wv v w t
  | d :: p, t => by
    show TR.wc (TR.wc t d (TR.setP w p (t.ch d))) d (TR.setP v p (TR.ch d (TR.wc t d (TR.setP w p (t.ch d))))) = TR.wc t d (TR.setP v p (t.ch d))
    rw [TR.ch_wc, TR.wc_wc, TR.setP_setP v w p]
theorem TR.setP_comm (v w : Option Blk) : ∀ (p q : List Dg) (t : TR), p ≠ q → TR.setP v p (TR.setP w q t) = TR.setP w q (TR.setP v p t)
  | [], [], t, h => absurd rfl h
  | [], d :: q, t, _ => by
    show TR.wv v (TR.wc t d (TR.setP w q (t.ch d))) = TR.wc (TR.wv v t) d (TR.setP w q (TR.ch d (TR.wv v t)))
    rw [TR.ch_wv, TR.wc_wv]
  | d :: p, [], t, _ => by
    show TR.wc (TR.wv w t) d (TR.setP v p (TR.ch d (TR.wv w t))) = TR.wv w (TR.wc t d (TR.setP v p (t.ch d)))
    rw [TR.ch_wv, TR.wc_wv]
  | d :: p, d' :: q, t, h => by
    show TR.wc (TR.wc t d' (TR.setP w q (t.ch d'))) d (TR.setP v p (TR.ch d (TR.wc t d' (TR.setP w q (t.ch d'))))) = TR.wc (TR.wc t d (TR.setP v p (t.ch d))) d' (TR.setP w q (TR.ch d' (TR.wc t d (TR.setP v p (t.ch d)))))
    by_cases hd : d = d'
    · subst hd
      rw [TR.ch_wc, TR.ch_wc, TR.wc_wc, TR.wc_wc, TR.setP_comm v w p q _ (fun e => h (by rw [e]))]
    · rw [TR.ch_wc_ne _ _ hd, TR.ch_wc_ne _ _ (fun e => hd e.symm), TR.wc_wc_ne _ _ _ hd]
theorem TR.set_set (v w : Option Blk) (t : TR) (r : Nat) : TR.set (TR.set t r w) r v = TR.set t r v := TR.setP_setP v w _ _
theorem TR.set_comm (v w : Option Blk) (t : TR) {r q : Nat} (h : r ≠ q) : TR.set (TR.set t q w) r v = TR.set (TR.set t r v) q w := TR.setP_comm v w _ _ _ (fun e => h (path_inj.1 e))
def trL (i : Nat) : List (Option Blk) → TR → TR
  | [], t => t
  | b :: l, t => trL (i + 1) l (TR.set t i b)
theorem trL_app : ∀ (l m : List (Option Blk)) (i : Nat) (t : TR), trL i (l ++ m) t = trL (i + l.length) m (trL i l t)
  | [], m, i, t => rfl
  | b :: l, m, i, t => by
    show trL (i + 1) (l ++ m) _ = _
    rw [trL_app l m (i + 1)]
    show trL (i + 1 + l.length) m _ = trL (i + (l.length + 1)) m _
    rw [show i + 1 + l.length = i + (l.length + 1) from by omega]
    rfl
theorem trL_set_lt (v : Option Blk) : ∀ (l : List (Option Blk)) (i r : Nat) (t : TR), r < i → TR.set (trL i l t) r v = trL i l (TR.set t r v)
  | [], i, r, t, h => rfl
  | b :: l, i, r, t, h => by
    show TR.set (trL (i + 1) l (TR.set t i b)) r v = trL (i + 1) l (TR.set (TR.set t r v) i b)
    rw [trL_set_lt v l (i + 1) r _ (by omega), TR.set_comm v b t (by omega)]
theorem trL_set (v : Option Blk) : ∀ (l : List (Option Blk)) (i r : Nat) (t : TR), r < l.length → TR.set (trL i l t) (i + r) v = trL i (l.set r v) t
  | [], i, r, t, h => absurd h (by simp)
  | b :: l, i, 0, t, h => by
    show TR.set (trL (i + 1) l (TR.set t i b)) i v = trL (i + 1) l (TR.set t i v)
    rw [trL_set_lt v l (i + 1) _ _ (by omega), TR.set_set]
  | b :: l, i, r + 1, t, h => by
    show TR.set (trL (i + 1) l (TR.set t i b)) (i + (r + 1)) v = trL (i + 1) (l.set r v) (TR.set t i b)
    rw [show i + (r + 1) = i + 1 + r from by omega, trL_set v l (i + 1) r _ (by simpa using h)]
theorem trL_get_lt : ∀ (l : List (Option Blk)) (i r : Nat) (t : TR), r < i → (trL i l t).get r = t.get r
  | [], i, r, t, h => rfl
  | b :: l, i, r, t, h => by
    show (trL (i + 1) l (TR.set t i b)).get r = _
    rw [trL_get_lt l (i + 1) r _ (by omega), TR.get_set, if_neg (by omega)]
theorem trL_get : ∀ (l : List (Option Blk)) (i r : Nat) (t : TR), r < l.length → (trL i l t).get (i + r) = (l[r]?).getD none
  | [], i, r, t, h => absurd h (by simp)
  | b :: l, i, 0, t, h => by
    show (trL (i + 1) l (TR.set t i b)).get (i + 0) = b
    rw [trL_get_lt l (i + 1) _ _ (by omega), TR.get_set, if_pos (by omega)]
  | b :: l, i, r + 1, t, h => by
    show (trL (i + 1) l (TR.set t i b)).get (i + (r + 1)) = ((b :: l)[r + 1]?).getD none
    rw [show i + (r + 1) = i + 1 + r from by omega, trL_get l (i + 1) r _ (by simpa using h)]
    simp
def S (l : List (Option Blk)) (nx : Nat) : ES := ⟨trL 0 l .e, l.length, nx⟩
theorem S_get {l : List (Option Blk)} {nx r : Nat} {b : Blk} (h : l[r]? = some (some b)) : (S l nx).t.get r = some b := by
  have hr : r < l.length := (List.getElem?_eq_some_iff.1 h).1
  have := trL_get l 0 r .e hr
  rw [Nat.zero_add] at this
  show (trL 0 l .e).get r = _
  rw [this, h]; rfl
theorem S_sAt {l : List (Option Blk)} {nx r st : Nat} {b : Blk} {k : Blk → Res} (h : l[r]? = some (some b)) (hb : b.st = st) : sAt (S l nx) r st k = k b :=
  sAt_of (show r < l.length from (List.getElem?_eq_some_iff.1 h).1) (S_get h) hb
theorem S_push {l : List (Option Blk)} {nx : Nat} {b : Nat → Blk} {k : Nat → Nat → ES → Res} (h : l.length ≤ 999999999) : pPush (S l nx) b k = k l.length nx (S (l ++ [some (b nx)]) (nx + 1)) := by
  rw [pPush_of (show (S l nx).n ≤ _ from h)]
  have : (S l nx).push (b (S l nx).nx) = S (l ++ [some (b nx)]) (nx + 1) := by
    show (⟨TR.set (trL 0 l .e) l.length (some (b nx)), l.length + 1, nx + 1⟩ : ES) = ⟨trL 0 (l ++ [some (b nx)]) .e, (l ++ [some (b nx)]).length, nx + 1⟩
    rw [trL_app]
    simp [trL]
  rw [this]; rfl
theorem S_put {l : List (Option Blk)} {nx r : Nat} {b : Option Blk} {k : ES → Res} (h : r < l.length) (hl : l.length ≤ 999999999) : pPut (S l nx) r b k = k (S (l.set r b) nx) := by
  rw [pPut_of (by omega)]
  have : (S l nx).put r b = S (l.set r b) nx := by
    show (⟨TR.set (trL 0 l .e) r b, l.length, nx⟩ : ES) = ⟨trL 0 (l.set r b) .e, (l.set r b).length, nx⟩
    have := trL_set b l 0 r .e h
    rw [Nat.zero_add] at this
    rw [this, List.length_set]
  rw [this]
theorem S_put1 {l : List (Option Blk)} {nx r : Nat} {b : Nat → Blk} {k : Nat → ES → Res} (h : r < l.length) (hl : l.length ≤ 999999999) : pPut1 (S l nx) r b k = k nx (S (l.set r (some (b nx))) (nx + 1)) := by
  rw [pPut1_of (by omega)]
  have : (S l nx).put1 r (some (b (S l nx).nx)) = S (l.set r (some (b nx))) (nx + 1) := by
    show (⟨TR.set (trL 0 l .e) r (some (b nx)), l.length, nx + 1⟩ : ES) = ⟨trL 0 (l.set r (some (b nx))) .e, (l.set r (some (b nx))).length, nx + 1⟩
    have := trL_set (some (b nx)) l 0 r .e h
    rw [Nat.zero_add] at this
    rw [this, List.length_set]
  rw [this]; rfl
theorem S_nil : (S [] 0) = ⟨.e, 0, 0⟩ := rfl
theorem S_st (l : List (Option Blk)) (nx : Nat) : (S l nx).st = (l, nx) := by
  refine Prod.ext (List.ext_getElem? fun r => ?_) rfl
  rw [ES.get?]
  by_cases h : r < l.length
  · have := trL_get l 0 r .e h
    rw [Nat.zero_add] at this
    rw [if_pos (show r < (S l nx).n from h)]
    show some ((trL 0 l .e).get r) = l[r]?
    rw [this, List.getElem?_eq_getElem h]; rfl
  · rw [if_neg (show ¬ r < (S l nx).n from h)]
    exact (List.getElem?_eq_none (show l.length ≤ r by omega)).symm
theorem jn_d (A : List Nat) (K : Cur A) (B : Cur A → Res) : jn A K B = B K := rfl
theorem jv_d (k : KV) (B : KV → Res) : jv k B = B k := rfl
theorem jr_d (k : Res) (B : Res → Res) : jr k B = B k := rfl
theorem lp_s (A : List Nat) (n : Nat) (B : Cur A → Cur A) : lp A (n + 1) B = B (lp A n B) := rfl
theorem callK_ret (v : AV) (s : ES) (k : KV) : callK (some (.ret v s)) k = k v s := rfl
theorem exK_ex (e : XExit) (f : Nat → AV) (s : ES) (k : XExit → (Nat → AV) → ES → Res) : exK (some (.ex e f s)) k = k e f s := rfl
theorem callK_if (p : Prop) [Decidable p] (a b : Res) (k : KV) : callK (if p then a else b) k = if p then callK a k else callK b k := by by_cases h : p <;> simp [h]
theorem eCond_b (t : Bool) (x y : Res) : eCond (.b t) x y = cond t x y := by rw [eCond_def]
theorem eGuard_b (y want : Bool) (a b : Res) : eGuard (.b y) want a b = cond (cond want y (!y)) a b := by rw [eGuard_def]
theorem pPick_b (t : Bool) (a b : AV) (k : KP) : pPick (.b t) a b k = cond t (k a) (k b) := by rw [pPick_def]; simp only [cnd_eq]
theorem bK_b (t : Bool) (k : KP) : bK t k = k (.b t) := by cases t <;> rfl
theorem pUn_not (t : Bool) (k : KP) : pUn .not (.b t) k = k (.b (!t)) := by show bK (!t) k = _; rw [bK_b]
theorem eLeave_nil (s : ES) (k : ES → Res) : eLeave [] s k = k s := rfl
theorem args0 (C : Res) : argsK [] [] C = C := rfl
theorem args1 (x : Nat) (C : AV → Res) (v : AV) : argsK [x] [v] C = C v := rfl
theorem args2 (x y : Nat) (C : AV → AV → Res) (v w : AV) : argsK [x, y] [v, w] C = C v w := rfl
theorem args3 (x y z : Nat) (C : AV → AV → AV → Res) (v w u : AV) : argsK [x, y, z] [v, w, u] C = C v w u := rfl
theorem args4 (x y z t : Nat) (C : AV → AV → AV → AV → Res) (v w u r : AV) : argsK [x, y, z, t] [v, w, u, r] C = C v w u r := rfl
theorem wrap64 {n : Int} (h1 : -9223372036854775808 ≤ n) (h2 : n ≤ 9223372036854775807) : IntKind.i64.wrap n = n := by
  simp only [IntKind.wrap, IntKind.bits, IntKind.signed]; simp; omega
theorem wrap32 {n : Int} (h1 : -2147483648 ≤ n) (h2 : n ≤ 2147483647) : IntKind.i32.wrap n = n := by
  simp only [IntKind.wrap, IntKind.bits, IntKind.signed]; simp; omega
theorem wrapu8 {n : Int} (h1 : 0 ≤ n) (h2 : n ≤ 255) : IntKind.u8.wrap n = n := by
  simp only [IntKind.wrap, IntKind.bits, IntKind.signed]; simp; omega
theorem wrapu64 {n : Int} (h1 : 0 ≤ n) (h2 : n ≤ 18446744073709551615) : IntKind.u64.wrap n = n := by
  simp only [IntKind.wrap, IntKind.bits, IntKind.signed]; simp; omega
theorem wrapu32 {n : Int} (h1 : 0 ≤ n) (h2 : n ≤ 4294967295) : IntKind.u32.wrap n = n := by
  simp only [IntKind.wrap, IntKind.bits, IntKind.signed]; simp; omega
theorem kEq_refl (k : IntKind) : kEq k k = true := by rw [kEq_eq]; simp
theorem pI2_i (gi : IntKind → Int → Int → Res) (gs : List Nat → List Nat → Res) (kd : IntKind) (a b : Int) : pI2 gi gs (.i kd a) (.i kd b) = gi kd a b := by
  show cnd (kEq kd kd) (gi kd a b) none = _
  rw [kEq_refl]; rfl
theorem pI2_s (gi : IntKind → Int → Int → Res) (gs : List Nat → List Nat → Res) (a b : List Nat) : pI2 gi gs (.s a) (.s b) = gs a b := rfl
theorem bAdd_i (kd : IntKind) (a b : Int) (k : KP) : bAdd (.i kd a) (.i kd b) k = k (.i kd (kd.wrap (a + b))) := by rw [bAdd, pI2_i, iAdd_eq]
theorem bSub_i (kd : IntKind) (a b : Int) (k : KP) : bSub (.i kd a) (.i kd b) k = k (.i kd (kd.wrap (a - b))) := by rw [bSub, pI2_i, iSub_eq]
theorem bMul_i (kd : IntKind) (a b : Int) (k : KP) : bMul (.i kd a) (.i kd b) k = k (.i kd (kd.wrap (a * b))) := by rw [bMul, pI2_i, iMul_eq]
theorem bQuo_i (kd : IntKind) (a b : Int) (k : KP) : bQuo (.i kd a) (.i kd b) k = if b = 0 then none else k (.i kd (kd.wrap (a.tdiv b))) := by rw [bQuo, pI2_i, iQuo_eq]
theorem bRem_i (kd : IntKind) (a b : Int) (k : KP) : bRem (.i kd a) (.i kd b) k = if b = 0 then none else k (.i kd (a.tmod b)) := by rw [bRem, pI2_i, iRem_eq]
theorem bEql_i (kd : IntKind) (a b : Int) (k : KP) : bEql (.i kd a) (.i kd b) k = k (.b (decide (a = b))) := by rw [bEql, pI2_i, bK_b, iEq_eq]
theorem bNeq_i (kd : IntKind) (a b : Int) (k : KP) : bNeq (.i kd a) (.i kd b) k = k (.b (!decide (a = b))) := by rw [bNeq, pI2_i, bK_b, iEq_eq]
theorem bLss_i (kd : IntKind) (a b : Int) (k : KP) : bLss (.i kd a) (.i kd b) k = k (.b (decide (a < b))) := by rw [bLss, pI2_i, bK_b, iLt_eq]
theorem bLeq_i (kd : IntKind) (a b : Int) (k : KP) : bLeq (.i kd a) (.i kd b) k = k (.b (decide (a ≤ b))) := by rw [bLeq, pI2_i, bK_b, iLe_eq]
theorem bGtr_i (kd : IntKind) (a b : Int) (k : KP) : bGtr (.i kd a) (.i kd b) k = k (.b (decide (b < a))) := by rw [bGtr, pI2_i, bK_b, iLt_eq]
theorem bGeq_i (kd : IntKind) (a b : Int) (k : KP) : bGeq (.i kd a) (.i kd b) k = k (.b (decide (b ≤ a))) := by rw [bGeq, pI2_i, bK_b, iLe_eq]
theorem bEql_s (a b : List Nat) (k : KP) : bEql (.s a) (.s b) k = k (.b (a == b)) := by rw [bEql, pI2_s, bK_b, natEqL_eq]
theorem bNeq_s (a b : List Nat) (k : KP) : bNeq (.s a) (.s b) k = k (.b (!(a == b))) := by rw [bNeq, pI2_s, bK_b, natEqL_eq]
theorem bLss_s (a b : List Nat) (k : KP) : bLss (.s a) (.s b) k = k (.b (natLess a b)) := by rw [bLss, pI2_s, bK_b, natLtL_eq]
theorem bAdd_s {a b : List Nat} {k : KP} (h : a.length + b.length ≤ 4611686018427387903) : bAdd (.s a) (.s b) k = k (.s (a ++ b)) := by
  rw [bAdd, pI2_s, sAdd, lenR_eq, lenR_eq, appK_eq, Nat.ble_eq_true_of_le (show Nat.add a.length b.length ≤ _ from h)]; rfl
theorem pInt_i (kd kd' : IntKind) (n : Int) (k : KP) : pInt kd (.i kd' n) k = k (.i kd (kd.wrap n)) := by rw [pInt_def]; exact wrapK_eq kd n k
theorem pLen_s (l : List Nat) (k : KP) : pLen true (.s l) k = k (.i .i64 (l.length : Nat)) := by
  rw [pLen_def]; simp only [frcN_eq, lenR_eq, cnd_eq, cond_true]; rfl
theorem pLen_sl (kk n : Nat) (cs : List AV) (k : KP) : pLen false (.sl kk n cs) k = k (.i .i64 (n : Nat)) := by rw [pLen_def]; rfl
theorem pLen_gr (r st i n kk : Nat) (k : KP) : pLen false (.gr r st i n kk) k = k (.i .i64 (n : Nat)) := by rw [pLen_def]; rfl
theorem pLen_ns (k : KP) : pLen false .ns k = k (.i .i64 0) := by rw [pLen_def]; rfl
theorem pLen_sz (k : KP) : pLen false .sz k = k (.i .i64 0) := by rw [pLen_def]; rfl
theorem pIdxs_s {l : List Nat} {kd : IntKind} {z : Int} {n c : Nat} {k : KP} (hz : z = (n : Nat)) (h : l[n]? = some c) : pIdxs (.s l) (.i kd z) k = k (.i .u8 (c : Nat)) := by
  subst hz
  rw [pIdxs_def]
  show (dropK l n fun d => (match d with | c :: _ => k (.i .u8 (.ofNat c)) | [] => none)) = _
  rw [dropK_eq]
  have : (l.drop n).head? = some c := by rw [drop_head]; exact h
  cases hd : l.drop n with
  | nil => rw [hd] at this; cases this
  | cons a t => rw [hd] at this; cases this; rfl
theorem boundK_n {n d m : Nat} {kd : IntKind} {z : Int} {k : Nat → Res} (hz : z = (m : Nat)) (h : m ≤ n) : boundK n (some (.i kd z)) d k = k m := by
  subst hz
  show cond (Nat.ble m n) (k m) none = _
  rw [Nat.ble_eq_true_of_le h]; rfl
theorem pSsl_ff {l : List Nat} {lo hi : Int} {p q : Nat} {kd kd' : IntKind} {k : KP} (h1 : lo = (p : Nat)) (h2 : hi = (q : Nat)) (hpq : p ≤ q) (hq : q ≤ l.length) : pSsl (.s l) (some (.i kd lo)) (some (.i kd' hi)) k = k (.s ((l.drop p).take (q - p))) := by
  show (frcN (lenR l) fun n => boundsK n (some (.i kd lo)) (some (.i kd' hi)) fun p q => dropK l p fun d => cond (Nat.beq q n) (k (.s d)) (takeK d (Nat.sub q p) fun l => k (.s l))) = _
  rw [frcN_eq, lenR_eq]
  unfold boundsK
  rw [boundK_n h2 hq, boundK_n h1 hpq]
  show (dropK l p fun d => cond (Nat.beq q l.length) (k (.s d)) (takeK d (Nat.sub q p) fun l => k (.s l))) = _
  rw [dropK_eq, takeK_eq, beqN]
  by_cases e : q = l.length
  · simp only [e, decide_true, cond_true]
    rw [List.take_of_length_le (by simp)]
  · simp only [e, decide_false, cond_false]; rfl
theorem pSsl_fn {l : List Nat} {lo : Int} {p : Nat} {kd : IntKind} {k : KP} (h1 : lo = (p : Nat)) (hp : p ≤ l.length) : pSsl (.s l) (some (.i kd lo)) none k = k (.s (l.drop p)) := by
  show (frcN (lenR l) fun n => boundsK n (some (.i kd lo)) none fun p q => dropK l p fun d => cond (Nat.beq q n) (k (.s d)) (takeK d (Nat.sub q p) fun l => k (.s l))) = _
  rw [frcN_eq, lenR_eq]
  show (boundK l.length (some (.i kd lo)) 0 fun p => dropK l p fun d => cond (Nat.beq l.length l.length) (k (.s d)) (takeK d (Nat.sub l.length p) fun l => k (.s l))) = _
  rw [boundK_n h1 hp, dropK_eq, beqN]; simp
theorem pSsl_nf {l : List Nat} {hi : Int} {q : Nat} {kd : IntKind} {k : KP} (h2 : hi = (q : Nat)) (hq : q ≤ l.length) : pSsl (.s l) none (some (.i kd hi)) k = k (.s (l.take q)) := by
  show (frcN (lenR l) fun n => boundsK n none (some (.i kd hi)) fun p q => dropK l p fun d => cond (Nat.beq q n) (k (.s d)) (takeK d (Nat.sub q p) fun l => k (.s l))) = _
  rw [frcN_eq, lenR_eq]
  unfold boundsK
  rw [boundK_n h2 hq]
  show (dropK l 0 fun d => cond (Nat.beq q l.length) (k (.s d)) (takeK d (Nat.sub q 0) fun l => k (.s l))) = _
  rw [dropK_eq, takeK_eq, beqN]
  by_cases e : q = l.length
  · simp [e]
  · simp only [e, decide_false, cond_false]; rfl
theorem pRow_S {l : List (Option Blk)} {nx T : Nat} {cs : List AV} {k : KV} (h : l.length ≤ 999999999) : pRow (S l nx) T cs k = k (.p l.length nx cs.length 0 0) (S (l ++ [some (.cells nx false T 0 cs)]) (nx + 1)) := by
  unfold pRow
  rw [frcN_eq, lenR_eq, S_push h]
theorem vCells_i (kd : IntKind) (n : Int) (k : List AV → Res) : vCells (.i kd n) k = k [.i kd n] := rfl
theorem vCells_s (x : List Nat) (k : List AV → Res) : vCells (.s x) k = k [.s x] := rfl
theorem vCells_b (x : Bool) (k : List AV → Res) : vCells (.b x) k = k [.b x] := rfl
theorem vCells_agg (x : List AV) (k : List AV → Res) : vCells (.agg x) k = k x := rfl
theorem vCells_sl (kk n : Nat) (x : List AV) (k : List AV → Res) : vCells (.sl kk n x) k = k [.sl kk n x] := rfl
theorem vCells_gr (r st i n kk : Nat) (k : List AV → Res) : vCells (.gr r st i n kk) k = k [.gr r st i n kk] := rfl
theorem vCells_p (r st i n kk : Nat) (k : List AV → Res) : vCells (.p r st i n kk) k = k [.p r st i n kk] := rfl
theorem vCells_ns (k : List AV → Res) : vCells .ns k = k [.ns] := rfl
theorem vCells_sz (k : List AV → Res) : vCells .sz k = k [.sz] := rfl
theorem vCells_fn (f : Fn) (a b : List AV) (k : List AV → Res) : vCells (.fn f a b) k = k [.fn f a b] := rfl
theorem vCells_pe (cs : List AV) (kk i o : Nat) (k : List AV → Res) : vCells (.pe cs kk i o) k = k [.pe cs kk i o] := rfl
theorem pBox_S {l : List (Option Blk)} {nx T : Nat} {v : AV} {cs : List AV} {k : KV} (hv : v.cells = some cs) (h : l.length ≤ 999999999) : pBox (S l nx) T v k = k (.p l.length nx cs.length 0 0) (S (l ++ [some (.cells nx false T 0 cs)]) (nx + 1)) := by
  unfold pBox
  rw [vCells_eq, hv]
  exact pRow_S h
theorem loadK_t {cs : List AV} {n kk i o : Nat} {k : KP} (h1 : o + n ≤ kk) (h2 : (i + 1) * kk ≤ cs.length) : loadK true n cs kk i o k = k (.agg ((cs.drop (i * kk + o)).take n)) := by
  rw [loadK_eq]
  simp only [loadN, elemAt]
  rw [if_pos h2]
  simp only [Option.bind_some]
  have hl : o + n ≤ ((cs.drop (i * kk)).take kk).length := by
    rw [List.length_take, List.length_drop]
    have : (i + 1) * kk = i * kk + kk := by rw [Nat.add_mul]; simp
    omega
  rw [if_pos hl]
  simp only [Option.bind_some, packV, kont]
  rw [List.drop_take, List.take_take, List.drop_drop, show min n (kk - o) = n from by omega]
  rfl
theorem loadK_f {cs : List AV} {kk i o : Nat} {v : AV} {k : KP} (h1 : o + 1 ≤ kk) (h2 : (i + 1) * kk ≤ cs.length) (hv : cs[i * kk + o]? = some v) : loadK false 1 cs kk i o k = k v := by
  rw [loadK_eq]
  simp only [loadN, elemAt]
  rw [if_pos h2]
  simp only [Option.bind_some]
  have hl : o + 1 ≤ ((cs.drop (i * kk)).take kk).length := by
    rw [List.length_take, List.length_drop]
    have : (i + 1) * kk = i * kk + kk := by rw [Nat.add_mul]; simp
    omega
  rw [if_pos hl]
  simp only [Option.bind_some]
  rw [List.drop_take, List.take_take, List.drop_drop, show min 1 (kk - o) = 1 from by omega]
  have : (cs.drop (i * kk + o)).head? = some v := by rw [drop_head]; exact hv
  cases hd : cs.drop (i * kk + o) with
  | nil => rw [hd] at this; cases this
  | cons a t => rw [hd] at this; cases this; rfl
theorem pLoad_S {l : List (Option Blk)} {nx r st st' kk i o n T fz : Nat} {cs : List AV} {g : Bool} {k : KP} (h : l[r]? = some (some (.cells st' false T fz cs))) (hst : st' = st) : pLoad (S l nx) g n (.p r st kk i o) k = loadK g n cs kk i o k := by
  rw [pLoad_def]
  simp only
  rw [S_sAt h hst]
theorem pLoad_pe {s : ES} {kk i o n : Nat} {cs : List AV} {g : Bool} {k : KP} : pLoad s g n (.pe cs kk i o) k = loadK g n cs kk i o k := by
  rw [pLoad_def]
theorem pStore_S {l : List (Option Blk)} {nx r st st' kk i o n T : Nat} {old cs : List AV} {v : AV} {k : KV} (h : l[r]? = some (some (.cells st' false T 0 old))) (hst : st' = st) (hv : v.cells = some cs) (hn : cs.length = n)
    (ho : o + n ≤ kk) (hi : (i + 1) * kk ≤ old.length) (hl : l.length ≤ 999999999) :
    pStore (S l nx) n (.p r st kk i o) v k = k (.tup []) (S (l.set r (some (.cells st' false T 0 (old.take (i * kk + o) ++ (cs ++ old.drop (i * kk + o + cs.length)))))) nx) := by
  rw [pStore_def]
  simp only
  rw [S_sAt h hst]
  simp only [vCells_eq, hv, lenR_eq, hn]
  rw [show Nat.beq n n = true from by rw [beqN]; simp, show Nat.ble (Nat.add o n) kk = true from Nat.ble_eq_true_of_le ho, show decide (Nat.mul (Nat.succ i) kk ≤ old.length) = true from decide_eq_true hi,
    show Nat.ble 0 (Nat.succ (Nat.add (Nat.mul i kk) o)) = true from rfl]
  simp only [cond_true, overK_eq]
  rw [S_put ((List.getElem?_eq_some_iff.1 h).1) hl]
  rw [hn]
  rfl
theorem pNil_p {l : List (Option Blk)} {nx r st st' kk i o T fz : Nat} {cs : List AV} {k : KP} (h : l[r]? = some (some (.cells st' false T fz cs))) (hst : st' = st) : pNil (S l nx) (.p r st kk i o) k = k (.p r st kk i o) := by
  rw [pNil_def]
  simp only [sLive]
  rw [S_sAt h hst]; rfl
theorem pNil_pe {s : ES} {kk i o : Nat} {cs : List AV} {k : KP} : pNil s (.pe cs kk i o) k = k (.pe cs kk i o) := by rw [pNil_def]
theorem pFadr_p {l : List (Option Blk)} {nx r st st' kk i o T fz off : Nat} {cs : List AV} {k : KP} (h : l[r]? = some (some (.cells st' false T fz cs))) (hst : st' = st) : pFadr (S l nx) off (.p r st kk i o) k = k (.p r st kk i (o + off)) := by
  rw [pFadr_def]
  simp only [sLive, frcN_eq]
  rw [S_sAt h hst]; rfl
theorem pFadr_pe {s : ES} {kk i o off : Nat} {cs : List AV} {k : KP} : pFadr s off (.pe cs kk i o) k = k (.pe cs kk i (o + off)) := by
  rw [pFadr_def]; simp only [frcN_eq]; rfl
theorem pIadrS_sl {s : ES} {kk n m : Nat} {cs : List AV} {kd : IntKind} {z : Int} {k : KP} (hz : z = (m : Nat)) (h : m < n) : pIadrS s kk (.sl kk n cs) (.i kd z) k = k (.pe cs kk m 0) := by
  subst hz
  rw [pIadrS_def]
  show cnd (Nat.beq kk kk) (cnd (Nat.ble (Nat.succ m) n) (k (.pe cs kk m 0)) none) none = _
  rw [beqN, Nat.ble_eq_true_of_le (show Nat.succ m ≤ n from h)]; simp only [cnd_eq, decide_true, cond_true]
theorem pIadrS_gr {l : List (Option Blk)} {nx r st st' i0 T fz : Nat} {cs : List AV} {kk n m : Nat} {kd : IntKind} {z : Int} {k : KP} (hr : l[r]? = some (some (.cells st' false T fz cs))) (hst : st' = st) (hz : z = (m : Nat)) (h : m < n) :
    pIadrS (S l nx) kk (.gr r st i0 n kk) (.i kd z) k = k (.p r st kk (i0 + m) 0) := by
  subst hz
  rw [pIadrS_def]
  show cnd (Nat.beq kk kk) (cnd (Nat.ble (Nat.succ m) n) (sLive (S l nx) r st (frcN (Nat.add i0 m) fun i => k (.p r st kk i 0))) none) none = _
  rw [beqN, Nat.ble_eq_true_of_le (show Nat.succ m ≤ n from h)]; simp only [cnd_eq, decide_true, cond_true, sLive, frcN_eq]
  rw [S_sAt hr hst]; rfl
theorem pExt_t {l : List AV} {n : Nat} {v : AV} {k : KP} (h : l[n]? = some v) : pExt (.tup l) n k = k v := by
  rw [pExt_def]
  simp only [dropK_eq]
  have : (l.drop n).head? = some v := by rw [drop_head]; exact h
  cases hd : l.drop n with
  | nil => rw [hd] at this; cases this
  | cons a t => rw [hd] at this; cases this; rfl
theorem fillK_nil (z : List AV) (k : List AV → Res) : fillK z [] k = k z := rfl
theorem fillK_cons {z : List AV} {o n : Nat} {v : AV} {cs : List AV} {ps : List (Nat × Nat × AV)} {k : List AV → Res} (hv : v.cells = some cs) (hn : cs.length = n) (hz : o + n ≤ z.length) : fillK z ((o, n, v) :: ps) k = fillK (z.take o ++ (cs ++ z.drop (o + n))) ps k := by
  show (vCells v fun cs => cond (Nat.beq (lenR cs) n) (cond (Nat.ble (Nat.add o n) (lenR z)) (replK z o cs fun z => fillK z ps k) none) none) = _
  rw [vCells_eq, hv]
  simp only [lenR_eq, hn, replK_eq]
  rw [beqN, Nat.ble_eq_true_of_le (show Nat.add o n ≤ z.length from hz)]
  simp only [decide_true, cond_true, replaceAt, hn]
theorem pBuild_d (z : List AV) (ps : List (Nat × Nat × AV)) (k : KP) : pBuild z ps k = fillK z ps fun l => k (.agg l) := rfl
theorem pLit_S {l : List (Option Blk)} {nx T k0 n : Nat} {z : List AV} {ps : List (Nat × Nat × AV)} {k : KV} (h : l.length ≤ 999999999) :
    pLit (S l nx) T k0 n z ps k = fillK z ps fun cs => k (.gr l.length nx 0 n k0) (S (l ++ [some (.cells nx false T 0 cs)]) (nx + 1)) := by
  unfold pLit
  congr 1
  funext cs
  rw [S_push h]
end Hb
end

section
set_option linter.unusedVariables false
set_option linter.unusedSimpArgs false
set_option linter.constructorNameAsVariable false
set_option autoImplicit false
set_option linter.unusedVariables false
set_option linter.unusedSimpArgs false
set_option linter.constructorNameAsVariable false
namespace Hb
open Go
noncomputable def cloB (v : AV) : Bool :=
  AV.rec (motive_1 := fun _ => Bool) (motive_2 := fun _ => Bool) true (fun _ => true) (fun _ _ => true) (fun _ => true) (fun _ _ _ _ _ => false) (fun _ _ _ _ ih => ih) true (fun _ _ _ ih => ih) true true (fun _ _ _ _ _ => false) (fun _ _ => false) (fun _ _ _ ih => ih) true (fun _ _ => false)
    (fun _ _ _ ia ib => cond ia ib false) (fun _ _ => false) true (fun _ _ ih => ih) true (fun _ ih => ih) (fun _ ih => ih) true (fun _ _ ih il => cond ih il false) v
noncomputable def cloBL (l : List AV) : Bool :=
  AV.rec_1 (motive_1 := fun _ => Bool) (motive_2 := fun _ => Bool) true (fun _ => true) (fun _ _ => true) (fun _ => true) (fun _ _ _ _ _ => false) (fun _ _ _ _ ih => ih) true (fun _ _ _ ih => ih) true true (fun _ _ _ _ _ => false) (fun _ _ => false) (fun _ _ _ ih => ih) true (fun _ _ => false)
    (fun _ _ _ ia ib => cond ia ib false) (fun _ _ => false) true (fun _ _ ih => ih) true (fun _ ih => ih) (fun _ ih => ih) true (fun _ _ ih il => cond ih il false) l
mutual
theorem cloB_iff : ∀ (v : AV), cloB v = true ↔ Clo v
  | .u | .b _ | .i _ _ | .s _ | .np | .ns | .sz | .nm | .nf | .ni => by simp only [Clo, iff_true]; rfl
  | .p _ _ _ _ _ | .gr _ _ _ _ _ | .m _ _ | .it _ _ | .fy _ _ => by simp only [Clo, iff_false]; exact Bool.false_ne_true
  | .pe cs _ _ _ => by simp only [Clo]; exact cloBL_iff cs
  | .sl _ _ cs => by simp only [Clo]; exact cloBL_iff cs
  | .mi _ _ ks => by simp only [Clo]; exact cloBL_iff ks
  | .fn _ a b => by
    simp only [Clo]
    show cond (cloBL a) (cloBL b) false = true ↔ _
    rw [← cloBL_iff a, ← cloBL_iff b]
    cases cloBL a <;> simp
  | .ifc _ v => by simp only [Clo]; exact cloB_iff v
  | .agg l => by simp only [Clo]; exact cloBL_iff l
  | .tup l => by simp only [Clo]; exact cloBL_iff l
theorem cloBL_iff : ∀ (l : List AV), cloBL l = true ↔ CloL l
  | [] => by simp only [CloL, iff_true]; rfl
  | x :: xs => by
    simp only [CloL]
    show cond (cloB x) (cloBL xs) false = true ↔ _
    rw [← cloB_iff x, ← cloBL_iff xs]
    cases cloB x <;> simp
end
noncomputable def mapO (f : AV → Option AV) (l : List AV) : Option (List AV) :=
  List.rec (motive := fun _ => Option (List AV)) (some []) (fun a _ ih => match f a, ih with | some b, some t => some (b :: t) | _, _ => none) l
theorem mapO_cons (f : AV → Option AV) (a : AV) (l : List AV) : mapO f (a :: l) = (match f a, mapO f l with | some b, some t => some (b :: t) | _, _ => none) := rfl
noncomputable def atR (s : ES) (r st : Nat) : Option Blk :=
  ES.rec (motive := fun _ => Option Blk) (fun t n _ => cond (Nat.ble (Nat.succ r) n) (match getR t r with | some b => cond (Nat.beq (stR b) st) (some b) none | none => none) none) s
theorem atR_eq (s : ES) (r st : Nat) : atR s r st = s.at r st := by
  obtain ⟨t, n, x⟩ := s
  show cond (Nat.ble (Nat.succ r) n) (match getR t r with | some b => cond (Nat.beq (stR b) st) (some b) none | none => none) none = _
  rw [getR_eq]
  unfold ES.at
  cases Nat.ble (Nat.succ r) n with
  | false => rfl
  | true =>
    simp only [cond_true]
    cases t.get r with
    | none => rfl
    | some b => simp only [stR_eq]
noncomputable def inl1 (ih : AV → Option AV) (s : ES) (v : AV) : Option AV :=
  match v with
  | .gr r st i n k => (match atR s r st with
    | some (.cells _ false _ _ cs) => cond (Nat.ble (Nat.mul (Nat.add i n) k) (lenR cs)) (match mapO ih (takeR (dropR cs (Nat.mul i k)) (Nat.mul n k)) with | some l => some (.sl k n l) | none => none) none
    | some (.cells _ true _ _ _) => some .sz
    | _ => none)
  | .p r st k i o => (match atR s r st with
    | some (.cells _ false _ _ cs) => (match mapO ih cs with | some l => some (.pe l k i o) | none => none)
    | _ => none)
  | .tup l => (match mapO ih l with | some l => some (.tup l) | none => none)
  | .agg l => (match mapO ih l with | some l => some (.agg l) | none => none)
  | .ifc t v => (match ih v with | some v => some (.ifc t v) | none => none)
  | .fn f a b => (match mapO ih a, mapO ih b with | some a, some b => some (.fn f a b) | _, _ => none)
  | v => cond (cloB v) (some v) none
noncomputable def inlN (f : Nat) (s : ES) (v : AV) : Option AV := Nat.rec (motive := fun _ => AV → Option AV) (fun _ => none) (fun _ ih v => cond (cloB v) (some v) (inl1 ih s v)) f v
theorem inlN_s (f : Nat) (s : ES) (v : AV) : inlN (f + 1) s v = cond (cloB v) (some v) (inl1 (inlN f s) s v) := rfl
theorem inlN_clo {f : Nat} {s : ES} {v : AV} (h : Clo v) : inlN (f + 1) s v = some v := by rw [inlN_s, (cloB_iff v).2 h]; rfl
theorem mapO_clo {f : Nat} {s : ES} : ∀ {l : List AV}, CloL l → mapO (inlN (f + 1) s) l = some l
  | [], _ => rfl
  | x :: xs, h => by
    simp only [CloL] at h
    rw [mapO_cons, inlN_clo h.1, mapO_clo h.2]
theorem mapO_inl {f : Nat} {s : ES} (H : ∀ v v', inlN f s v = some v' → Inl Clo s.st.1 v v') : ∀ {l l' : List AV}, mapO (inlN f s) l = some l' → InlL Clo s.st.1 l l'
  | [], l', h => by
    have h : some [] = some l' := h
    cases h; exact .nil
  | x :: xs, l', h => by
    rw [mapO_cons] at h
    split at h
    · rename_i b t h1 h2
      cases h
      exact .cons _ _ _ _ (H _ _ h1) (mapO_inl H h2)
    · cases h
theorem inlN_inl {s : ES} : ∀ (f : Nat) {v v' : AV}, inlN f s v = some v' → Inl Clo s.st.1 v v'
  | 0, v, v', h => by cases h
  | f + 1, v, v', h => by
    have H : ∀ v v', inlN f s v = some v' → Inl Clo s.st.1 v v' := fun v v' h => inlN_inl f h
    rw [inlN_s] at h
    cases hc : cloB v with
    | true => rw [hc] at h; cases h; exact .clo _ ((cloB_iff v).1 hc)
    | false =>
      rw [hc] at h
      have h : inl1 (inlN f s) s v = some v' := h
      unfold inl1 at h
      split at h
      · rw [atR_eq, ES.at_eq] at h
        split at h
        · rename_i hat
          obtain ⟨h1, h⟩ := cond_some' h
          split at h
          · rename_i hm
            cases h
            rw [takeR_eq, dropR_eq] at hm
            refine .gr _ _ _ _ _ _ _ _ _ _ hat ?_ (mapO_inl H hm)
            have := Nat.le_of_ble_eq_true h1
            rw [lenR_eq] at this
            exact this
          · cases h
        · rename_i hat
          cases h
          exact .grv _ _ _ _ _ _ _ _ _ hat
        · cases h
      · rw [atR_eq, ES.at_eq] at h
        split at h
        · rename_i hat
          split at h
          · rename_i hm
            cases h
            exact .p _ _ _ _ _ _ _ _ _ _ hat (mapO_inl H hm)
          · cases h
        · cases h
      · split at h
        · rename_i hm; cases h; exact .tup _ _ (mapO_inl H hm)
        · cases h
      · split at h
        · rename_i hm; cases h; exact .agg _ _ (mapO_inl H hm)
        · cases h
      · split at h
        · rename_i hm; cases h; exact .ifc _ _ _ (H _ _ hm)
        · cases h
      · split at h
        · rename_i h1 h2; cases h; exact .fn _ _ _ _ _ (mapO_inl H h1) (mapO_inl H h2)
        · cases h
      · rw [hc] at h; cases h
noncomputable def flatOv (F : List AV → Option AV) : Fun := fun _ args s => match mapO (inlN 4 s) args with
  | some as => (match F as with
    | some v => some (.ret v s)
    | none => none)
  | none => none
noncomputable def cloOv (F : List AV → Option AV) : Fun := fun _ args s => cond (cloBL args) (match F args with
  | some v => some (.ret v s)
  | none => none) none
noncomputable def rowOv (F : List AV → Option (Nat × Nat × Nat × List AV)) : Fun := fun _ args s => match mapO (inlN 4 s) args with
  | some as => (match F as with
    | some (T, n, k, cs) => cond (Nat.beq n 0) (some (.ret .ns s)) (pPush s (fun x => .cells x false T 0 cs) fun r x s' => some (.ret (.gr r x 0 n k) s'))
    | none => none)
  | none => none
section
variable {P : Prg}
theorem InlL.refl {σ : Store} : ∀ {l : List AV}, CloL l → InlL Clo σ l l
  | [], _ => .nil
  | x :: xs, h => by simp only [CloL] at h; exact .cons _ _ _ _ (.clo _ h.1) (InlL.refl h.2)
theorem flatOv_ok (hG : GlobClo P) {g : FuncId} {b : Fun} {R : Rec} {F : List AV → Option AV} (hb : SOk P g b) (hR : RecOk P R)
    (h : ∀ as v, F as = some v → Tot (fun v0 s0 => ∃ v', Inl Fla s0.st.1 v0 v' ∧ v' = v) (b R as (S [] 0))) : SOk P g (flatOv F) := by
  intro R' _ args s a ha
  unfold flatOv at ha
  split at ha
  case h_2 => cases ha
  rename_i as has
  split at ha
  case h_2 => cases ha
  rename_i v hF
  cases ha
  obtain ⟨a0, ha0, hall⟩ := h as v hF
  have hcall := hb R hR as (S [] 0) a0 ha0
  rw [S_st] at hcall
  refine (ACall.pure (C := Clo) (D := Fla) (Φ := fun x => x = v) hG (mapO_inl (fun v v' h => inlN_inl 4 h) has) ⟨fun v h => h, .inl fun v h => h⟩ (hcall.mono fun v0 σ' ⟨s0, hl, hs⟩ => ?_)).mono fun x σ' ⟨h1, h2⟩ => ?_
  · obtain ⟨v', h1, h2⟩ := hall.leaf v0 s0 hl
    rw [← hs]
    exact ⟨v', h1, h2⟩
  · exact ⟨s, by rw [h1]; rfl, h2.symm⟩
theorem cloOv_ok (hG : GlobClo P) {g : FuncId} {b : Fun} {R : Rec} {F : List AV → Option AV} (hb : SOk P g b) (hR : RecOk P R)
    (h : ∀ as v, F as = some v → CloL as → Tot (fun v0 s0 => ∃ v', Inl Clo s0.st.1 v0 v' ∧ v' = v) (b R as (S [] 0))) : SOk P g (cloOv F) := by
  intro R' _ args s a ha
  unfold cloOv at ha
  obtain ⟨hc, ha⟩ := cond_some ha
  have hcl := (cloBL_iff args).1 hc
  clear hc
  split at ha
  case h_2 => cases ha
  rename_i v hF
  cases ha
  obtain ⟨a0, ha0, hall⟩ := h args v hF hcl
  have hcall := hb R hR args (S [] 0) a0 ha0
  rw [S_st] at hcall
  have hin : InlL Clo s.st.1 args args := InlL.refl hcl
  refine (ACall.pure (C := Clo) (D := Clo) (Φ := fun x => x = v) hG hin ⟨fun v h => h, .inr ⟨rfl, hcl, fun v h => h⟩⟩ (hcall.mono fun v0 σ' ⟨s0, hl, hs⟩ => ?_)).mono fun x σ' ⟨h1, h2⟩ => ?_
  · obtain ⟨v', h1, h2⟩ := hall.leaf v0 s0 hl
    rw [← hs]
    exact ⟨v', h1, h2⟩
  · exact ⟨s, by rw [h1]; rfl, h2.symm⟩
def IsRow (D : AV → Prop) (T n k : Nat) (cs' : List AV) (v : AV) (s : ES) : Prop :=
  ∃ r st st' cs, v = .gr r st 0 n k ∧ s.st.1.at r st = some (.cells st' false T 0 cs) ∧ InlL D (s.st.1.set r none) cs cs'
theorem rowOv_ok (hG : GlobClo P) {g : FuncId} {b : Fun} {R : Rec} {F : List AV → Option (Nat × Nat × Nat × List AV)} (hb : SOk P g b) (hR : RecOk P R)
    (h : ∀ as T n k cs, F as = some (T, n, k, cs) → (n = 0 → Tot (fun v _ => v = .ns) (b R as (S [] 0))) ∧ (n ≠ 0 → Tot (IsRow Fla T n k cs) (b R as (S [] 0)))) : SOk P g (rowOv F) := by
  intro R' _ args s a ha
  unfold rowOv at ha
  split at ha
  case h_2 => cases ha
  rename_i as has
  split at ha
  case h_2 => cases ha
  rename_i T n k cs hF
  obtain ⟨hn0, hn1⟩ := h as T n k cs hF
  rw [beqN] at ha
  by_cases hn : n = 0
  · rw [decide_eq_true hn] at ha
    cases ha
    obtain ⟨a0, ha0, hall⟩ := hn0 hn
    have hcall := hb R hR as (S [] 0) a0 ha0
    rw [S_st] at hcall
    refine (ACall.pure (C := Clo) (D := Fla) (Φ := fun x => x = .ns) hG (mapO_inl (fun v v' h => inlN_inl 4 h) has) ⟨fun v h => h, .inl fun v h => h⟩ (hcall.mono fun v0 σ' ⟨s0, hl, hs⟩ => ?_)).mono fun x σ' ⟨h1, h2⟩ => ?_
    · have := hall.leaf v0 s0 hl
      exact ⟨.ns, by rw [this]; exact .clo _ (by simp only [Fla]), rfl⟩
    · exact ⟨s, by rw [h1]; rfl, h2.symm⟩
  rw [decide_eq_false hn, cond_false] at ha
  obtain ⟨s1, hs1, ha⟩ := pPush_some ha
  cases ha
  obtain ⟨a0, ha0, hall⟩ := hn1 hn
  have hcall := hb R hR as (S [] 0) a0 ha0
  rw [S_st] at hcall
  refine (ACall.row (C := Clo) (D := Fla) (Φ := fun T' n' k' cs' => T' = T ∧ n' = n ∧ k' = k ∧ cs' = cs) hG (mapO_inl (fun v v' h => inlN_inl 4 h) has) ⟨fun v h => h, .inl fun v h => h⟩ (hcall.mono fun v0 σ' ⟨s0, hl, hs⟩ => ?_)).mono fun x σ' ⟨T', n', k', cs', ⟨e1, e2, e3, e4⟩, h1, h2⟩ => ?_
  · obtain ⟨r, st, st', cs0, rfl, h2, h3⟩ := hall.leaf v0 s0 hl
    rw [← hs]
    exact ⟨r, st, st', T, n, k, cs0, cs, rfl, h2, h3, rfl, rfl, rfl, rfl⟩
  · subst e1 e2 e3 e4
    refine ⟨s1, ?_, by rw [hs1, h2]⟩
    rw [h1]; rfl
end
theorem flatOv_S {F : List AV → Option AV} {R : Rec} {args as : List AV} {v : AV} {s : ES} (h1 : mapO (inlN 4 s) args = some as) (h2 : F as = some v) : flatOv F R args s = some (.ret v s) := by
  unfold flatOv; rw [h1]; simp only [h2]
theorem flatOv_c {F : List AV → Option AV} {R : Rec} {args : List AV} {v : AV} {s : ES} (h1 : CloL args) (h2 : F args = some v) : flatOv F R args s = some (.ret v s) := flatOv_S (mapO_clo h1) h2
theorem cloOv_c {F : List AV → Option AV} {R : Rec} {args : List AV} {v : AV} {s : ES} (h1 : CloL args) (h2 : F args = some v) : cloOv F R args s = some (.ret v s) := by
  unfold cloOv; rw [(cloBL_iff args).2 h1]; simp only [cond_true, h2]
theorem rowOv_S {F : List AV → Option (Nat × Nat × Nat × List AV)} {R : Rec} {args as : List AV} {T n k : Nat} {cs : List AV} {l : List (Option Blk)} {nx : Nat} (h1 : mapO (inlN 4 (S l nx)) args = some as) (h2 : F as = some (T, n, k, cs)) (hn : n ≠ 0) (hl : l.length ≤ 999999999) :
    rowOv F R args (S l nx) = some (.ret (.gr l.length nx 0 n k) (S (l ++ [some (.cells nx false T 0 cs)]) (nx + 1))) := by
  unfold rowOv; rw [h1]; simp only [h2]; rw [beqN, decide_eq_false hn, cond_false, S_push hl]
theorem rowOv_0 {F : List AV → Option (Nat × Nat × Nat × List AV)} {R : Rec} {args as : List AV} {T k : Nat} {cs : List AV} {s : ES} (h1 : mapO (inlN 4 s) args = some as) (h2 : F as = some (T, 0, k, cs)) :
    rowOv F R args s = some (.ret .ns s) := by
  unfold rowOv; rw [h1]; simp only [h2]; rfl
end Hb
end

section
set_option linter.unusedVariables false
set_option linter.unusedSimpArgs false
set_option linter.constructorNameAsVariable false
set_option autoImplicit false
set_option linter.unusedVariables false
set_option linter.unusedSimpArgs false
set_option linter.constructorNameAsVariable false
namespace Hb
open Go
structure Ids where
  f : Nat → Nat
  t : Nat → Nat
  x : Nat → XC
theorem get_last {α : Type} (l : List α) (x : α) : (l ++ [x])[l.length]? = some x := by simp
theorem AV.cells_i (k : IntKind) (n : Int) : (AV.i k n).cells = some [.i k n] := rfl
theorem AV.cells_s (l : List Nat) : (AV.s l).cells = some [.s l] := rfl
theorem AV.cells_b (x : Bool) : (AV.b x).cells = some [.b x] := rfl
theorem AV.cells_agg (l : List AV) : (AV.agg l).cells = some l := rfl
theorem AV.cells_sl (k n : Nat) (l : List AV) : (AV.sl k n l).cells = some [.sl k n l] := rfl
theorem kont_v (v : AV) (k : KP) : kont (some v) k = k v := rfl
theorem loadK_fm {cs : List AV} {kk i o : Nat} {k : KP} (h1 : o + 1 ≤ kk) (h2 : (i + 1) * kk ≤ cs.length) : loadK false 1 cs kk i o k = kont cs[i * kk + o]? k := by
  cases hv : cs[i * kk + o]? with
  | none =>
    exfalso
    rw [List.getElem?_eq_none_iff] at hv
    have : (i + 1) * kk = i * kk + kk := by rw [Nat.add_mul]; simp
    omega
  | some v => exact loadK_f h1 h2 hv
theorem pLoad_Sf {l : List (Option Blk)} {nx r st st' kk i o T fz : Nat} {cs : List AV} {k : KP} (h : l[r]? = some (some (.cells st' false T fz cs))) (hst : st' = st) (h1 : o + 1 ≤ kk) (h2 : (i + 1) * kk ≤ cs.length) :
    pLoad (S l nx) false 1 (.p r st kk i o) k = kont cs[i * kk + o]? k := by rw [pLoad_S h hst, loadK_fm h1 h2]
theorem pLoad_St {l : List (Option Blk)} {nx r st st' kk i o n T fz : Nat} {cs : List AV} {k : KP} (h : l[r]? = some (some (.cells st' false T fz cs))) (hst : st' = st) (h1 : o + n ≤ kk) (h2 : (i + 1) * kk ≤ cs.length) :
    pLoad (S l nx) true n (.p r st kk i o) k = k (.agg ((cs.drop (i * kk + o)).take n)) := by rw [pLoad_S h hst, loadK_t h1 h2]
end Hb
end

section
set_option linter.unusedVariables false
set_option linter.unusedSimpArgs false
set_option linter.constructorNameAsVariable false
set_option autoImplicit false
set_option linter.unusedVariables false
set_option linter.unusedSimpArgs false
set_option linter.constructorNameAsVariable false
namespace Hb
open Go
structure Enc (α : Type) where
  k : Nat
  enc : α → List AV
  dec : List AV → Option α
  pos : 0 < k
  len : ∀ a, (enc a).length = k
  ok : ∀ a, dec (enc a) = some a
  inv : ∀ cs a, dec cs = some a → cs = enc a
  clo : ∀ a, CloL (enc a)
variable {α : Type}
def Enc.decL (E : Enc α) : Nat → List AV → Option (List α)
  | 0, cs => if cs = [] then some [] else none
  | n + 1, cs => match E.dec (cs.take E.k), E.decL n (cs.drop E.k) with
    | some a, some l => some (a :: l)
    | _, _ => none
def Enc.encL (E : Enc α) (l : List α) : List AV := l.flatMap E.enc
def Enc.decS (E : Enc α) : AV → Option (List α)
  | .ns => some []
  | .sz => some []
  | .sl k n cs => if k = E.k then E.decL n cs else none
  | _ => none
def Enc.sl (E : Enc α) (l : List α) : AV := .sl E.k l.length (E.encL l)
theorem Enc.encL_len (E : Enc α) : ∀ (l : List α), (E.encL l).length = l.length * E.k
  | [] => by simp [Enc.encL]
  | a :: l => by
    have := E.encL_len l
    simp only [Enc.encL] at this ⊢
    rw [List.flatMap_cons, List.length_append, E.len, this, List.length_cons, Nat.add_mul]; omega
theorem Enc.decL_enc (E : Enc α) : ∀ (l : List α), E.decL l.length (E.encL l) = some l
  | [] => rfl
  | a :: l => by
    have h := E.decL_enc l
    simp only [List.length_cons, Enc.decL]
    have h1 : (E.encL (a :: l)).take E.k = E.enc a := by
      simp only [Enc.encL, List.flatMap_cons]
      rw [← E.len a, List.take_left']
      rfl
    have h2 : (E.encL (a :: l)).drop E.k = E.encL l := by
      simp only [Enc.encL, List.flatMap_cons]
      rw [← E.len a, List.drop_left']
      rfl
    rw [h1, h2, E.ok, h]
theorem Enc.decL_inv (E : Enc α) : ∀ {n : Nat} {cs : List AV} {l : List α}, E.decL n cs = some l → n = l.length ∧ cs = E.encL l
  | 0, cs, l, h => by
    simp only [Enc.decL] at h
    split at h
    · cases h; exact ⟨rfl, by rw [‹cs = []›]; rfl⟩
    · cases h
  | n + 1, cs, l, h => by
    simp only [Enc.decL] at h
    split at h
    · rename_i a l' h1 h2
      cases h
      obtain ⟨e1, e2⟩ := E.decL_inv h2
      refine ⟨by simp [e1], ?_⟩
      have e3 := E.inv _ _ h1
      rw [← List.take_append_drop E.k cs, e3, e2]
      simp [Enc.encL]
    · cases h
theorem Enc.decS_sl (E : Enc α) (l : List α) : E.decS (E.sl l) = some l := by
  simp only [Enc.decS, Enc.sl, if_true, E.decL_enc]
theorem Enc.decS_inv (E : Enc α) {v : AV} {l : List α} (h : E.decS v = some l) : (l = [] ∧ (v = .ns ∨ v = .sz)) ∨ v = E.sl l := by
  unfold Enc.decS at h
  split at h
  · cases h; exact .inl ⟨rfl, .inl rfl⟩
  · cases h; exact .inl ⟨rfl, .inr rfl⟩
  · split at h
    · rename_i hk
      obtain ⟨h1, h2⟩ := E.decL_inv h
      right
      rw [Enc.sl, h1, h2, hk]
    · cases h
  · cases h
theorem CloL_append : ∀ {l m : List AV}, CloL l → CloL m → CloL (l ++ m)
  | [], m, _, h => h
  | x :: l, m, h, k => by simp only [CloL] at h; rw [List.cons_append]; simp only [CloL]; exact ⟨h.1, CloL_append h.2 k⟩
theorem Enc.cloL (E : Enc α) : ∀ (l : List α), CloL (E.encL l)
  | [] => by simp only [Enc.encL, List.flatMap_nil, CloL]
  | a :: l => by
    have h := E.cloL l
    simp only [Enc.encL, List.flatMap_cons] at h ⊢
    exact CloL_append (E.clo a) h
theorem Enc.clo_sl (E : Enc α) (l : List α) : Clo (E.sl l) := by simp only [Enc.sl, Clo]; exact E.cloL l
theorem Enc.clo_of (E : Enc α) {v : AV} {l : List α} (h : E.decS v = some l) : Clo v := by
  rcases E.decS_inv h with ⟨_, rfl | rfl⟩ | rfl
  · simp only [Clo]
  · simp only [Clo]
  · exact E.clo_sl l
theorem Enc.drop_i (E : Enc α) : ∀ (l : List α) (i : Nat) (a : α), l[i]? = some a → ((E.encL l).drop (i * E.k)).take E.k = E.enc a
  | [], i, a, h => by simp at h
  | b :: l, 0, a, h => by
    simp only [List.getElem?_cons_zero, Option.some.injEq] at h
    subst h
    simp only [Enc.encL, List.flatMap_cons, Nat.zero_mul, List.drop_zero]
    rw [← E.len b, List.take_left']
    rfl
  | b :: l, i + 1, a, h => by
    simp only [List.getElem?_cons_succ] at h
    have := E.drop_i l i a h
    simp only [Enc.encL, List.flatMap_cons] at this ⊢
    rw [show (i + 1) * E.k = E.k + i * E.k from by rw [Nat.add_mul]; omega, ← List.drop_drop]
    rw [show (E.enc b ++ List.flatMap E.enc l).drop E.k = List.flatMap E.enc l from by rw [← E.len b, List.drop_left']; rfl]
    exact this
theorem Enc.pLen_v (E : Enc α) {v : AV} {l : List α} (h : E.decS v = some l) (k : KP) : pLen false v k = k (.i .i64 (l.length : Nat)) := by
  rcases E.decS_inv h with ⟨rfl, rfl | rfl⟩ | rfl
  · exact pLen_ns k
  · exact pLen_sz k
  · exact pLen_sl _ _ _ k
theorem Enc.iadr (E : Enc α) {v : AV} {l : List α} (h : E.decS v = some l) {s : ES} {i : Nat} {z : Int} {kd : IntKind} {kk : Nat} {k : KP} (hkk : kk = E.k) (hz : z = (i : Nat)) (hi : i < l.length) : pIadrS s kk v (.i kd z) k = k (.pe (E.encL l) kk i 0) := by
  rcases E.decS_inv h with ⟨rfl, _⟩ | rfl
  · simp at hi
  · subst hkk; exact pIadrS_sl hz hi
theorem Enc.load_t (E : Enc α) {l : List α} {s : ES} {i kk : Nat} {a : α} {k : KP} (hkk : kk = E.k) (hi : l[i]? = some a) : pLoad s true kk (.pe (E.encL l) kk i 0) k = k (.agg (E.enc a)) := by
  subst hkk
  have hlt : i < l.length := (List.getElem?_eq_some_iff.1 hi).1
  rw [pLoad_pe, loadK_t (by omega) (by rw [E.encL_len]; exact Nat.mul_le_mul_right _ hlt), Nat.add_zero, E.drop_i l i a hi]
theorem Enc.get_i (E : Enc α) {l : List α} {i o : Nat} {a : α} (hi : l[i]? = some a) (ho : o < E.k) : (E.encL l)[i * E.k + o]? = (E.enc a)[o]? := by
  rw [← E.drop_i l i a hi, List.getElem?_take, if_pos ho, List.getElem?_drop]
theorem Enc.load_f (E : Enc α) {l : List α} {s : ES} {i o kk : Nat} {a : α} {k : KP} (hkk : kk = E.k) (hi : l[i]? = some a) (ho : o < E.k) : pLoad s false 1 (.pe (E.encL l) kk i o) k = kont (E.enc a)[o]? k := by
  subst hkk
  have hlt : i < l.length := (List.getElem?_eq_some_iff.1 hi).1
  rw [pLoad_pe, loadK_fm (by omega) (by rw [E.encL_len]; exact Nat.mul_le_mul_right _ hlt), E.get_i hi ho]
theorem eCallV_fn (Rg : FuncId → List AV → ES → Res) (Rb : Nat → XC → (Nat → AV) → ES → Res) (g : Nat) (first cap args : List AV) (s : ES) (k : KV) : eCallV Rg Rb (.fn (.func g) first cap) args s k = callK (Rg g (first ++ args ++ cap) s) k := rfl
def idxP (p : α → Bool) : List α → Nat → Int
  | [], _ => -1
  | x :: l, i => if p x then (i : Nat) else idxP p l (i + 1)
theorem idxP_nonneg (p : α → Bool) : ∀ (l : List α) (i : Nat), decide (0 ≤ idxP p l i) = l.any p
  | [], i => rfl
  | x :: l, i => by
    unfold idxP
    cases hp : p x with
    | true => simp [hp]
    | false =>
      simp only [Bool.false_eq_true, if_false]
      rw [idxP_nonneg p l (i + 1)]
      simp [hp]
def encI (kd : IntKind) : Enc Int where
  k := 1
  enc a := [.i kd a]
  dec cs := match cs with
    | [.i kd' a] => if kd' = kd then some a else none
    | _ => none
  pos := by decide
  len _ := rfl
  ok a := by simp
  inv cs a h := by
    split at h
    · split at h
      · cases h; subst_vars; rfl
      · cases h
    · cases h
  clo a := by simp only [CloL, Clo, and_self]
def encRange : Enc (Int × Int) where
  k := 2
  enc a := [.i .i32 a.1, .i .i32 a.2]
  dec cs := match cs with
    | [.i .i32 a, .i .i32 b] => some (a, b)
    | _ => none
  pos := by decide
  len _ := rfl
  ok a := rfl
  inv cs a h := by
    split at h
    · cases h; rfl
    · cases h
  clo a := by simp only [CloL, Clo, and_self]
def encB : Enc Bool where
  k := 1
  enc a := [.b a]
  dec cs := match cs with
    | [.b a] => some a
    | _ => none
  pos := by decide
  len _ := rfl
  ok a := rfl
  inv cs a h := by
    split at h
    · cases h; rfl
    · cases h
  clo a := by simp only [CloL, Clo, and_self]
def encS : Enc (List Nat) where
  k := 1
  enc a := [.s a]
  dec cs := match cs with
    | [.s a] => some a
    | _ => none
  pos := by decide
  len _ := rfl
  ok a := rfl
  inv cs a h := by
    split at h
    · cases h; rfl
    · cases h
  clo a := by simp only [CloL, Clo, and_self]
end Hb
end

section
set_option linter.unusedVariables false
set_option linter.unusedSimpArgs false
set_option linter.constructorNameAsVariable false
set_option autoImplicit false
set_option maxRecDepth 100000
set_option linter.unusedVariables false
namespace Hb
open Go Hb
noncomputable def B_right (I : Ids) (R : Rec) (args : List AV) (s2 : ES) : Res := argsK [0] args (fun v1 => (pBox s2 (I.t 0) v1 fun v3 s4 => (pFadr s4 0 v3 fun v5 => (pLoad s4 false 1 v5 fun v6 => (bGeq v6 (.i .i32 0) fun v7 => (jv (fun v8 s9 => (jv (fun v12 s13 => (jv (fun v16 s17 => (jv (fun v20 s21 => (jv (fun v24 s25 => (pPick v7 v24 (.b false) fun v28 => (jv (fun v29 s30 => (jv (fun v33 s34 => (jv (fun v37 s38 => (pPick v28 v37 (.b false) fun v41 => (some (.ret v41 s38)))) fun K39 => eGuard v28 true (bLeq v33 (.i .i32 1114111) fun v40 => K39 v40 s34) (K39 (.tup []) s34))) fun K35 => eGuard v28 true (pLoad s30 false 1 v29 fun v36 => K35 v36 s30) (K35 (.tup []) s30))) fun K31 => eGuard v28 true (pFadr s25 1 v3 fun v32 => K31 v32 s25) (K31 (.tup []) s25)))) fun K26 => eGuard v7 true (bLeq v12 v20 fun v27 => K26 v27 s21) (K26 (.tup []) s21))) fun K22 => eGuard v7 true (pLoad s17 false 1 v16 fun v23 => K22 v23 s17) (K22 (.tup []) s17))) fun K18 => eGuard v7 true (pFadr s13 1 v3 fun v19 => K18 v19 s13) (K18 (.tup []) s13))) fun K14 => eGuard v7 true (pLoad s9 false 1 v8 fun v15 => K14 v15 s9) (K14 (.tup []) s9))) fun K10 => eGuard v7 true (pFadr s4 0 v3 fun v11 => K10 v11 s4) (K10 (.tup []) s4)))))))
noncomputable def B_Has1 (I : Ids) (R : Rec) (args : List AV) (s3 : ES) : Res := argsK [0,1] args (fun v1 v2 => (pBox s3 (I.t 0) v1 fun v4 s5 => (pLoad s5 true 2 v4 fun v6 => (callK (R.f (I.f 0) [v6] s5) fun v7 s8 => (jv (fun v9 s10 => (jv (fun v13 s14 => (jv (fun v17 s18 => (jv (fun v21 s22 => (pPick v7 v21 (.b false) fun v25 => (jv (fun v26 s27 => (jv (fun v30 s31 => (jv (fun v34 s35 => (jv (fun v38 s39 => (pPick v25 v38 (.b false) fun v42 => (some (.ret v42 s39)))) fun K40 => eGuard v25 true (bLeq v26 v34 fun v41 => K40 v41 s35) (K40 (.tup []) s35))) fun K36 => eGuard v25 true (pLoad s31 false 1 v30 fun v37 => K36 v37 s31) (K36 (.tup []) s31))) fun K32 => eGuard v25 true (pFadr s27 1 v4 fun v33 => K32 v33 s27) (K32 (.tup []) s27))) fun K28 => eGuard v25 true (pLoad s22 false 1 v2 fun v29 => K28 v29 s22) (K28 (.tup []) s22)))) fun K23 => eGuard v7 true (bGeq v9 v17 fun v24 => K23 v24 s18) (K23 (.tup []) s18))) fun K19 => eGuard v7 true (pLoad s14 false 1 v13 fun v20 => K19 v20 s14) (K19 (.tup []) s14))) fun K15 => eGuard v7 true (pFadr s10 0 v4 fun v16 => K15 v16 s10) (K15 (.tup []) s10))) fun K11 => eGuard v7 true (pLoad s8 false 1 v2 fun v12 => K11 v12 s8) (K11 (.tup []) s8))))))
noncomputable def B_Has (I : Ids) (R : Rec) (args : List AV) (s3 : ES) : Res := argsK [0,1] args (fun v1 v2 => (pBox s3 (I.t 1) v2 fun v4 s5 => (callK (R.f (I.f 1) [v1,(.fn (.func (I.f 2)) [] [v4])] s5) fun v6 s7 => (some (.ret v6 s7)))))
noncomputable def B_CFR (I : Ids) (R : Rec) (args : List AV) (s3 : ES) : Res := argsK [0,1] args (fun v1 v2 => (callK (R.f (I.f 3) [v1,v2] s3) fun v4 s5 => (bGeq v4 (.i .i64 0) fun v6 => (some (.ret v6 s5)))))
noncomputable def B_IFRj1 (I : Ids) (R : Rec) : Cur [] := fun d4 s5 => (eLeave d4 s5 fun s6 => (some (.ret (.i .i64 (-1)) s6)))
noncomputable def B_IFRj2 (I : Ids) (R : Rec) (v10 : AV) (K9 : Cur [8]) : Cur [] := fun d16 s17 => (bAdd v10 (.i .i64 1) fun v18 => (K9 v18 d16 s17))
noncomputable def B_IFRj3 (I : Ids) (R : Rec) (v10 : AV) (K9 : Cur [8]) (v1 : AV) (v2 : AV) : Cur [] := fun d14 s15 => (jn [] (B_IFRj2 I R v10 K9) fun K19 => (pIadrS s15 2 v1 v10 fun v20 => (pLoad s15 true 2 v20 fun v21 => (eCallV R.g R.b v2 [v21] s15 fun v22 s23 => (eCond v22 (eLeave d14 s23 fun s24 => (some (.ret v10 s24))) (K19 d14 s23))))))
noncomputable def B_IFRl4 (I : Ids) (R : Rec) (v8 : AV) (v1 : AV) (v2 : AV) (K7 : Cur []) : Cur [8] → Cur [8] := fun K9 v10 d11 s12 => (bLss v10 v8 fun v13 => (jn [] (B_IFRj3 I R v10 K9 v1 v2) fun K25 => (eCond v13 (K25 d11 s12) (K7 d11 s12))))
noncomputable def B_IFR (I : Ids) (R : Rec) (args : List AV) (s3 : ES) : Res := argsK [0,1] args (fun v1 v2 => (jn [] (B_IFRj1 I R) fun K7 => (pLen false v1 fun v8 => (lp [8] 30000 (B_IFRl4 I R v8 v1 v2 K7) (.i .i64 0) [] s3))))
noncomputable def B_mstepj1 (I : Ids) (R : Rec) (v4 : AV) (v2 : AV) : Cur [] := fun d8 s9 => (pFadr s9 0 v4 fun v10 => (pLoad s9 false 1 v10 fun v11 => (pIadrS s9 1 v11 v2 fun v12 => (pLoad s9 false 1 v12 fun v13 => (bAdd v2 (.i .i64 1) fun v14 => (eLeave d8 s9 fun s15 => (some (.ret (.tup [v13,v14,(.b true)]) s15))))))))
noncomputable def B_mstepj2 (I : Ids) (R : Rec) (v4 : AV) (v2 : AV) : Cur [] := fun d6 s7 => (jn [] (B_mstepj1 I R v4 v2) fun K16 => (pFadr s7 0 v4 fun v17 => (pLoad s7 false 1 v17 fun v18 => (pLen false v18 fun v19 => (bEql v2 v19 fun v20 => (eCond v20 (eLeave d6 s7 fun s21 => (some (.ret (.tup [(.i .i32 0),(.i .i64 0),(.b false)]) s21))) (K16 d6 s7)))))))
noncomputable def B_mstepj3 (I : Ids) (R : Rec) (v4 : AV) (v2 : AV) : Cur [] := fun d25 s26 => (pFadr s26 0 v4 fun v27 => (pLoad s26 false 1 v27 fun v28 => (bSub v2 (.i .i64 1) fun v29 => (pIadrS s26 1 v28 v29 fun v30 => (pLoad s26 false 1 v30 fun v31 => (bSub v2 (.i .i64 1) fun v32 => (eLeave d25 s26 fun s33 => (some (.ret (.tup [v31,v32,(.b true)]) s33)))))))))
noncomputable def B_mstep (I : Ids) (R : Rec) (args : List AV) (s3 : ES) : Res := argsK [0,1] args (fun v1 v2 => (pBox s3 (I.t 2) v1 fun v4 s5 => (jn [] (B_mstepj2 I R v4 v2) fun K22 => (pFadr s5 1 v4 fun v23 => (pLoad s5 false 1 v23 fun v24 => (eCond v24 (jn [] (B_mstepj3 I R v4 v2) fun K34 => (bEql v2 (.i .i64 0) fun v35 => (eCond v35 (some (.ret (.tup [(.i .i32 0),(.i .i64 0),(.b false)]) s5)) (K34 [] s5)))) (K22 [] s5)))))))
noncomputable def B_mnone (I : Ids) (R : Rec) (args : List AV) (s2 : ES) : Res := argsK [0] args (fun v1 => (pBox s2 (I.t 2) v1 fun v3 s4 => (pFadr s4 0 v3 fun v5 => (pLoad s4 false 1 v5 fun v6 => (pLen false v6 fun v7 => (bAdd v7 (.i .i64 1) fun v8 => (pMk s4 (I.t 3) 1 [(.b false)] v8 v8 fun v9 s10 => (some (.ret v9 s10)))))))))
noncomputable def B_monej1 (I : Ids) (R : Rec) (v12 : AV) : Cur [] := fun d16 s17 => (pLoad s17 false 1 v12 fun v18 => (eLeave d16 s17 fun s19 => (some (.ret v18 s19))))
noncomputable def B_mone (I : Ids) (R : Rec) (args : List AV) (s4 : ES) : Res := argsK [0,1,2] args (fun v1 v2 v3 => (pBox s4 (I.t 2) v1 fun v5 s6 => (pBox s6 (I.t 4) v2 fun v7 s8 => (pLoad s8 true 2 v5 fun v9 => (callK (R.f (I.f 4) [v9] s8) fun v10 s11 => (pRow s11 (I.t 5) [(.ns)] fun v12 s13 => (pStore s13 1 v12 v10 fun v14 s15 => (jn [] (B_monej1 I R v12) fun K20 => (callK (R.f (I.f 5) [v3] s15) fun v21 s22 => (pRange R.h 34 v21 [16] (envL [(3,v5),(4,v7),(7,v12)]) (I.x 0) (I.x 1) [] s22 (fun d23 s24 => (K20 d23 s24)) fun e25 d26 s27 => (xsel 0 e25 (K20 d26 s27) fun e28 => (xfin e28 (eLeave d26 s27 fun s29 => (some (.ret (.ns) s29)))))))))))))))
noncomputable def C0_mone (I : Ids) (R : Rec) (f : Nat → AV) (s5 : ES) : Res := tmpsK [3,4,7,16] f (fun v1 v2 v3 v4 => (some (.ex .normal (envL [(3,v1),(4,v2),(7,v3),(8,v4)]) s5)))
noncomputable def C1_mone (I : Ids) (R : Rec) (f : Nat → AV) (s5 : ES) : Res := tmpsK [3,4,7,8] f (fun v1 v2 v3 v4 => (pLoad s5 true 2 v1 fun v6 => (callK (R.f (I.f 6) [v6,v4] s5) fun v7 s8 => (pExt v7 0 fun v9 => (pExt v7 1 fun v10 => (pExt v7 2 fun v11 => (jv (fun v12 s13 => (jv (fun v16 s17 => (jv (fun v19 s20 => (pPick v11 v19 (.b false) fun v22 => (eCond v22 (pLoad s20 false 1 v3 fun v23 => (pIadrS s20 1 v23 v10 fun v24 => (pStore s20 1 v24 (.b true) fun v25 s26 => (some (.ex .normal (envL []) s26))))) (some (.ex .normal (envL []) s20))))) fun K21 => eGuard v11 true (callK (R.f (I.f 7) [v12,v16] s17) K21) (K21 (.tup []) s17))) fun K18 => eGuard v11 true (K18 v9 s13) (K18 (.tup []) s13))) fun K14 => eGuard v11 true (pLoad s8 false 1 v2 fun v15 => K14 v15 s8) (K14 (.tup []) s8))))))))
noncomputable def B_mall (I : Ids) (R : Rec) (args : List AV) (s2 : ES) : Res := argsK [0] args (fun v1 => (pBox s2 (I.t 5) v1 fun v3 s4 => (some (.ret (.fn (.func (I.f 8)) [] [v3]) s4))))
noncomputable def B_mall1j1 (I : Ids) (R : Rec) (v7 : AV) (K6 : Cur [7]) : Cur [] := fun d13 s14 => (bAdd v7 (.i .i64 1) fun v15 => (K6 v15 d13 s14))
noncomputable def B_mall1j2 (I : Ids) (R : Rec) (v7 : AV) (K6 : Cur [7]) (v4 : AV) (v1 : AV) : Cur [] := fun d11 s12 => (jn [] (B_mall1j1 I R v7 K6) fun K16 => (pIadrS s12 1 v4 v7 fun v17 => (pLoad s12 false 1 v17 fun v18 => (jv (fun v19 s20 => (jv (fun v22 s23 => (jv (fun v25 s26 => (jv (fun v28 s29 => (pPick v18 v28 (.b false) fun v32 => (eCond v32 (eLeave d11 s29 fun s33 => (some (.ret (.tup []) s33))) (K16 d11 s29)))) fun K30 => eGuard v18 true (pUn .not v25 fun v31 => K30 v31 s26) (K30 (.tup []) s26))) fun K27 => eGuard v18 true (eCallV R.g R.b v19 [v22] s23 K27) (K27 (.tup []) s23))) fun K24 => eGuard v18 true (K24 v7 s20) (K24 (.tup []) s20))) fun K21 => eGuard v18 true (K21 v1 s12) (K21 (.tup []) s12)))))
noncomputable def B_mall1l3 (I : Ids) (R : Rec) (v5 : AV) (v4 : AV) (v1 : AV) : Cur [7] → Cur [7] := fun K6 v7 d8 s9 => (bLss v7 v5 fun v10 => (jn [] (B_mall1j2 I R v7 K6 v4 v1) fun K34 => (eCond v10 (K34 d8 s9) (eLeave d8 s9 fun s35 => (some (.ret (.tup []) s35))))))
noncomputable def B_mall1 (I : Ids) (R : Rec) (args : List AV) (s3 : ES) : Res := argsK [0,1] args (fun v1 v2 => (pLoad s3 false 1 v2 fun v4 => (pLen false v4 fun v5 => (lp [7] 30000 (B_mall1l3 I R v5 v4 v1) (.i .i64 0) [] s3))))
noncomputable def B_mwalkj1 (I : Ids) (R : Rec) (v5 : AV) : Cur [] := fun d9 s10 => (pLoad s10 true 2 v5 fun v11 => (callK (R.f (I.f 4) [v11] s10) fun v12 s13 => (eLeave d9 s13 fun s14 => (some (.ret v12 s14)))))
noncomputable def B_mwalkj2 (I : Ids) (R : Rec) (v5 : AV) (v36 : AV) (v34 : AV) (v3 : AV) : Cur [] := fun d42 s43 => (pLoad s43 true 2 v5 fun v44 => (pLoad s43 true 5 v36 fun v45 => (pLoad s43 true 2 v5 fun v46 => (pLoad s43 true 5 v34 fun v47 => (callK (R.f (I.f 9) [v46,v47,v3] s43) fun v48 s49 => (pLoad s49 true 5 v36 fun v54 => (cond (avEq v54 v45) (pLoad s49 true 2 v5 fun v53 => (cond (avEq v53 v44) (callK (R.f (I.f 9) [v44,v45,v48] s49) fun v50 s51 => (eLeave d42 s51 fun s52 => (some (.ret v50 s52)))) none)) none)))))))
noncomputable def B_mwalk (I : Ids) (R : Rec) (args : List AV) (s4 : ES) : Res := argsK [0,1,2] args (fun v1 v2 v3 => (pBox s4 (I.t 2) v1 fun v5 s6 => (pBox s6 (I.t 6) v2 fun v7 s8 => (jn [] (B_mwalkj1 I R v5) fun K15 => (pFadr s8 0 v7 fun v16 => (pLoad s8 false 1 v16 fun v17 => (bEql v17 (.i .i64 1) fun v18 => (eCond v18 (pLoad s8 true 2 v5 fun v19 => (pFadr s8 2 v7 fun v20 => (pLoad s8 false 1 v20 fun v21 => (callK (R.f (I.f 10) [v19,v21,v3] s8) fun v22 s23 => (some (.ret v22 s23)))))) (bEql v17 (.i .i64 3) fun v24 => (eCond v24 (some (.ret v3 s8)) (bEql v17 (.i .i64 4) fun v25 => (eCond v25 (pFadr s8 4 v7 fun v26 => (pLoad s8 false 1 v26 fun v27 => (pIadrS s8 5 v27 (.i .i64 0) fun v28 => (pLoad s8 true 5 v28 fun v29 => (pFadr s8 4 v7 fun v30 => (pLoad s8 false 1 v30 fun v31 => (pIadrS s8 5 v31 (.i .i64 1) fun v32 => (pLoad s8 true 5 v32 fun v33 => (pRow s8 (I.t 6) [(.i .i64 0),(.i .i64 0),(.ns),(.s []),(.ns)] fun v34 s35 => (pLoad s35 true 5 v32 fun v83 => (cond (avEq v83 v33) (pIadrS s35 5 v31 (.i .i64 1) fun v82 => (cond (avEq v82 v32) (pLoad s35 false 1 v30 fun v81 => (cond (avEq v81 v31) (pFadr s35 4 v7 fun v80 => (cond (avEq v80 v30) (pLoad s35 true 5 v28 fun v79 => (cond (avEq v79 v29) (pIadrS s35 5 v27 (.i .i64 0) fun v78 => (cond (avEq v78 v28) (pLoad s35 false 1 v26 fun v77 => (cond (avEq v77 v27) (pFadr s35 4 v7 fun v76 => (cond (avEq v76 v26) (pRow s35 (I.t 6) [(.i .i64 0),(.i .i64 0),(.ns),(.s []),(.ns)] fun v36 s37 => (pLoad s37 true 5 v32 fun v75 => (cond (avEq v75 v33) (pIadrS s37 5 v31 (.i .i64 1) fun v74 => (cond (avEq v74 v32) (pLoad s37 false 1 v30 fun v73 => (cond (avEq v73 v31) (pFadr s37 4 v7 fun v72 => (cond (avEq v72 v30) (pLoad s37 true 5 v28 fun v71 => (cond (avEq v71 v29) (pIadrS s37 5 v27 (.i .i64 0) fun v70 => (cond (avEq v70 v28) (pLoad s37 false 1 v26 fun v69 => (cond (avEq v69 v27) (pFadr s37 4 v7 fun v68 => (cond (avEq v68 v26) (pStore s37 5 v34 v29 fun v38 s39 => (pLoad s39 true 5 v32 fun v67 => (cond (avEq v67 v33) (pIadrS s39 5 v31 (.i .i64 1) fun v66 => (cond (avEq v66 v32) (pLoad s39 false 1 v30 fun v65 => (cond (avEq v65 v31) (pFadr s39 4 v7 fun v64 => (cond (avEq v64 v30) (pStore s39 5 v36 v33 fun v40 s41 => (jn [] (B_mwalkj2 I R v5 v36 v34 v3) fun K55 => (pFadr s41 1 v5 fun v56 => (pLoad s41 false 1 v56 fun v57 => (eCond v57 (pLoad s41 true 5 v36 fun v58 => (pLoad s41 true 5 v34 fun v59 => (pStore s41 5 v34 v58 fun v60 s61 => (pStore s61 5 v36 v59 fun v62 s63 => (K55 [] s63))))) (K55 [] s41)))))) none)) none)) none)) none))) none)) none)) none)) none)) none)) none)) none)) none))) none)) none)) none)) none)) none)) none)) none)) none))))))))))) (bEql v17 (.i .i64 5) fun v84 => (eCond v84 (pLoad s8 true 2 v5 fun v85 => (pFadr s8 4 v7 fun v86 => (pLoad s8 false 1 v86 fun v87 => (pIadrS s8 5 v87 (.i .i64 0) fun v88 => (pLoad s8 true 5 v88 fun v89 => (pLoad s8 true 2 v5 fun v90 => (pFadr s8 4 v7 fun v91 => (pLoad s8 false 1 v91 fun v92 => (pIadrS s8 5 v92 (.i .i64 1) fun v93 => (pLoad s8 true 5 v93 fun v94 => (callK (R.f (I.f 9) [v85,v89,v3] s8) fun v95 s96 => (pLoad s96 true 5 v93 fun v105 => (cond (avEq v105 v94) (pIadrS s96 5 v92 (.i .i64 1) fun v104 => (cond (avEq v104 v93) (pLoad s96 false 1 v91 fun v103 => (cond (avEq v103 v92) (pFadr s96 4 v7 fun v102 => (cond (avEq v102 v91) (pLoad s96 true 2 v5 fun v101 => (cond (avEq v101 v90) (callK (R.f (I.f 9) [v90,v94,v3] s96) fun v97 s98 => (callK (R.f (I.f 11) [v95,v97] s98) fun v99 s100 => (some (.ret v99 s100)))) none)) none)) none)) none)) none))))))))))))) (bEql v17 (.i .i64 6) fun v106 => (eCond v106 (pLoad s8 true 2 v5 fun v107 => (pFadr s8 4 v7 fun v108 => (pLoad s8 false 1 v108 fun v109 => (pIadrS s8 5 v109 (.i .i64 0) fun v110 => (pLoad s8 true 5 v110 fun v111 => (callK (R.f (I.f 12) [v107,v111,v3] s8) fun v112 s113 => (some (.ret v112 s113)))))))) (bEql v17 (.i .i64 7) fun v114 => (eCond v114 (pLoad s8 true 2 v5 fun v115 => (pFadr s8 4 v7 fun v116 => (pLoad s8 false 1 v116 fun v117 => (pIadrS s8 5 v117 (.i .i64 0) fun v118 => (pLoad s8 true 5 v118 fun v119 => (pLoad s8 true 2 v5 fun v120 => (pFadr s8 4 v7 fun v121 => (pLoad s8 false 1 v121 fun v122 => (pIadrS s8 5 v122 (.i .i64 0) fun v123 => (pLoad s8 true 5 v123 fun v124 => (callK (R.f (I.f 9) [v120,v124,v3] s8) fun v125 s126 => (pLoad s126 true 5 v118 fun v133 => (cond (avEq v133 v119) (pIadrS s126 5 v117 (.i .i64 0) fun v132 => (cond (avEq v132 v118) (pLoad s126 false 1 v116 fun v131 => (cond (avEq v131 v117) (pFadr s126 4 v7 fun v130 => (cond (avEq v130 v116) (pLoad s126 true 2 v5 fun v129 => (cond (avEq v129 v115) (callK (R.f (I.f 12) [v115,v119,v125] s126) fun v127 s128 => (some (.ret v127 s128))) none)) none)) none)) none)) none))))))))))))) (bEql v17 (.i .i64 8) fun v134 => (eCond v134 (pLoad s8 true 2 v5 fun v135 => (pFadr s8 4 v7 fun v136 => (pLoad s8 false 1 v136 fun v137 => (pIadrS s8 5 v137 (.i .i64 0) fun v138 => (pLoad s8 true 5 v138 fun v139 => (callK (R.f (I.f 9) [v135,v139,v3] s8) fun v140 s141 => (callK (R.f (I.f 11) [v3,v140] s141) fun v142 s143 => (some (.ret v142 s143))))))))) (K15 [] s8)))))))))))))))))))))
noncomputable def B_leadsj1 (I : Ids) (R : Rec) (v2 : AV) (v4 : AV) (v3 : AV) (v6 : AV) : Cur [] := fun d8 s9 => (pBuild [(.ns),(.b false)] [(0,1,v2),(1,1,v4)] fun v10 => (pRow s9 (I.t 2) [(.ns),(.b false)] fun v11 s12 => (pStore s12 2 v11 v10 fun v13 s14 => (pLoad s14 true 2 v11 fun v15 => (callK (R.f (I.f 4) [v15] s14) fun v16 s17 => (pIadrS s17 1 v16 v3 fun v18 => (pStore s17 1 v18 (.b true) fun v19 s20 => (pLoad s20 true 2 v11 fun v21 => (pLoad s20 true 5 v6 fun v22 => (callK (R.f (I.f 9) [v21,v22,v16] s20) fun v23 s24 => (callK (R.f (I.f 5) [v23] s24) fun v25 s26 => (callK (R.f (I.f 13) [v25] s26) fun v27 s28 => (eLeave d8 s28 fun s29 => (some (.ret v27 s29)))))))))))))))
noncomputable def B_leads (I : Ids) (R : Rec) (args : List AV) (s5 : ES) : Res := argsK [0,1,2,3] args (fun v1 v2 v3 v4 => (pBox s5 (I.t 6) v1 fun v6 s7 => (jn [] (B_leadsj1 I R v2 v4 v3 v6) fun K30 => (bLss v3 (.i .i64 0) fun v31 => (jv (fun v32 s33 => (jv (fun v35 s36 => (jv (fun v38 s39 => (jv (fun v42 s43 => (pPick v31 (.b true) v42 fun v46 => (jv (fun v47 s48 => (jv (fun v51 s52 => (jv (fun v54 s55 => (pPick v46 (.b true) v54 fun v58 => (eCond v58 (some (.ret (.ns) s55)) (K30 [] s55)))) fun K56 => eGuard v46 false (pUn .not v51 fun v57 => K56 v57 s52) (K56 (.tup []) s52))) fun K53 => eGuard v46 false (callK (R.f (I.f 14) [v47] s48) K53) (K53 (.tup []) s48))) fun K49 => eGuard v46 false (pLoad s43 true 5 v6 fun v50 => K49 v50 s43) (K49 (.tup []) s43)))) fun K44 => eGuard v31 false (bGtr v32 v38 fun v45 => K44 v45 s39) (K44 (.tup []) s39))) fun K40 => eGuard v31 false (pLen false v35 fun v41 => K40 v41 s36) (K40 (.tup []) s36))) fun K37 => eGuard v31 false (K37 v2 s33) (K37 (.tup []) s33))) fun K34 => eGuard v31 false (K34 v3 s7) (K34 (.tup []) s7))))))
noncomputable def B_Begins (I : Ids) (R : Rec) (args : List AV) (s4 : ES) : Res := argsK [0,1,2] args (fun v1 v2 v3 => (pBox s4 (I.t 6) v1 fun v5 s6 => (pLoad s6 true 5 v5 fun v7 => (callK (R.f (I.f 15) [v7,v2,v3,(.b true)] s6) fun v8 s9 => (some (.ret v8 s9))))))
noncomputable def B_Ends (I : Ids) (R : Rec) (args : List AV) (s4 : ES) : Res := argsK [0,1,2] args (fun v1 v2 v3 => (pBox s4 (I.t 6) v1 fun v5 s6 => (pLoad s6 true 5 v5 fun v7 => (callK (R.f (I.f 15) [v7,v2,v3,(.b false)] s6) fun v8 s9 => (some (.ret v8 s9))))))
noncomputable def B_whyj1 (I : Ids) (R : Rec) : Cur [] := fun d7 s8 => (eLeave d7 s8 fun s9 => (some (.ret (.tup [(.i .i64 (-1)),(.b true)]) s9)))
noncomputable def B_whyj2 (I : Ids) (R : Rec) (v15 : AV) (K14 : Cur [13]) : Cur [] := fun d21 s22 => (bAdd v15 (.i .i64 1) fun v23 => (K14 v23 d21 s22))
noncomputable def B_whyj3 (I : Ids) (R : Rec) (v15 : AV) (K14 : Cur [13]) (v12 : AV) (v2 : AV) (v3 : AV) : Cur [] := fun d19 s20 => (jn [] (B_whyj2 I R v15 K14) fun K24 => (pIadrS s20 12 v12 v15 fun v25 => (pLoad s20 true 12 v25 fun v26 => (pRow s20 (I.t 7) [(.i .i64 0),(.b false),(.i .i64 0),(.i .i64 0),(.ns),(.s []),(.ns),(.i .i64 0),(.i .i64 0),(.ns),(.s []),(.ns)] fun v27 s28 => (pStore s28 12 v27 v26 fun v29 s30 => (pFadr s30 2 v27 fun v31 => (pLoad s30 true 5 v31 fun v32 => (callK (R.f (I.f 16) [v32,v2,v3] s30) fun v33 s34 => (pLen false v33 fun v35 => (bGtr v35 (.i .i64 0) fun v36 => (jv (fun v37 s38 => (jv (fun v41 s42 => (jv (fun v45 s46 => (jv (fun v48 s49 => (jv (fun v51 s52 => (jv (fun v54 s55 => (jv (fun v58 s59 => (pPick v36 v58 (.b false) fun v62 => (eCond v62 (pFadr s59 0 v27 fun v63 => (pLoad s59 false 1 v63 fun v64 => (pFadr s59 1 v27 fun v65 => (pLoad s59 false 1 v65 fun v66 => (eLeave d19 s59 fun s67 => (some (.ret (.tup [v64,v66]) s67))))))) (K24 d19 s59)))) fun K60 => eGuard v36 true (bGtr v54 (.i .i64 0) fun v61 => K60 v61 s55) (K60 (.tup []) s55))) fun K56 => eGuard v36 true (pLen false v51 fun v57 => K56 v57 s52) (K56 (.tup []) s52))) fun K53 => eGuard v36 true (callK (R.f (I.f 17) [v41,v45,v48] s49) K53) (K53 (.tup []) s49))) fun K50 => eGuard v36 true (K50 v3 s46) (K50 (.tup []) s46))) fun K47 => eGuard v36 true (K47 v2 s42) (K47 (.tup []) s42))) fun K43 => eGuard v36 true (pLoad s38 true 5 v37 fun v44 => K43 v44 s38) (K43 (.tup []) s38))) fun K39 => eGuard v36 true (pFadr s34 7 v27 fun v40 => K39 v40 s34) (K39 (.tup []) s34))))))))))))
noncomputable def B_whyl4 (I : Ids) (R : Rec) (v13 : AV) (v12 : AV) (v2 : AV) (v3 : AV) (K10 : Cur []) : Cur [13] → Cur [13] := fun K14 v15 d16 s17 => (bLss v15 v13 fun v18 => (jn [] (B_whyj3 I R v15 K14 v12 v2 v3) fun K68 => (eCond v18 (K68 d16 s17) (K10 d16 s17))))
noncomputable def B_why (I : Ids) (R : Rec) (args : List AV) (s4 : ES) : Res := argsK [0,1,2] args (fun v1 v2 v3 => (pBox s4 (I.t 8) v1 fun v5 s6 => (jn [] (B_whyj1 I R) fun K10 => (pFadr s6 0 v5 fun v11 => (pLoad s6 false 1 v11 fun v12 => (pLen false v12 fun v13 => (lp [13] 30000 (B_whyl4 I R v13 v12 v2 v3 K10) (.i .i64 0) [] s6)))))))
noncomputable def B_Skippedj1 (I : Ids) (R : Rec) (v5 : AV) (v9 : AV) (v7 : AV) : Cur [] := fun d11 s12 => (pFadr s12 1 v5 fun v13 => (pLoad s12 false 1 v13 fun v14 => (callK (R.f (I.f 18) [v14,(.fn (.func (I.f 19)) [] [v9,v7])] s12) fun v15 s16 => (eLeave d11 s16 fun s17 => (some (.ret v15 s17))))))
noncomputable def B_Skipped (I : Ids) (R : Rec) (args : List AV) (s4 : ES) : Res := argsK [0,1,2] args (fun v1 v2 v3 => (pBox s4 (I.t 8) v1 fun v5 s6 => (pBox s6 (I.t 9) v2 fun v7 s8 => (pBox s8 (I.t 10) v3 fun v9 s10 => (jn [] (B_Skippedj1 I R v5 v9 v7) fun K18 => (pLoad s10 false 1 v9 fun v19 => (bLss v19 (.i .i64 0) fun v20 => (jv (fun v21 s22 => (jv (fun v25 s26 => (jv (fun v29 s30 => (jv (fun v33 s34 => (pPick v20 (.b true) v33 fun v37 => (eCond v37 (some (.ret (.b false) s34)) (K18 [] s34)))) fun K35 => eGuard v20 false (bGtr v21 v29 fun v36 => K35 v36 s30) (K35 (.tup []) s30))) fun K31 => eGuard v20 false (pLen false v25 fun v32 => K31 v32 s26) (K31 (.tup []) s26))) fun K27 => eGuard v20 false (pLoad s22 false 1 v7 fun v28 => K27 v28 s22) (K27 (.tup []) s22))) fun K23 => eGuard v20 false (pLoad s10 false 1 v9 fun v24 => K23 v24 s10) (K23 (.tup []) s10)))))))))
noncomputable def B_Skipped1 (I : Ids) (R : Rec) (args : List AV) (s4 : ES) : Res := argsK [0,1,2] args (fun v1 v2 v3 => (pS2b s4 (I.t 11) v1 fun v5 s6 => (callK (R.f (I.f 20) [v5] s6) fun v7 s8 => (pExt v7 0 fun v9 => (pExt v7 1 fun v10 => (pLen false v9 fun v11 => (pLoad s8 false 1 v2 fun v12 => (bLeq v11 v12 fun v13 => (jv (fun v14 s15 => (jv (fun v18 s19 => (jv (fun v22 s23 => (jv (fun v25 s26 => (jv (fun v29 s30 => (jv (fun v33 s34 => (jv (fun v37 s38 => (jv (fun v41 s42 => (jv (fun v44 s45 => (pPick v13 v44 (.b false) fun v47 => (some (.ret v47 s45)))) fun K46 => eGuard v13 true (callK (R.f (I.f 21) [v37,v41] s42) K46) (K46 (.tup []) s42))) fun K43 => eGuard v13 true (K43 v9 s38) (K43 (.tup []) s38))) fun K39 => eGuard v13 true (pLsl s34 1 v14 (some v29) (some v33) none fun v40 => K39 v40 s34) (K39 (.tup []) s34))) fun K35 => eGuard v13 true (pLoad s30 false 1 v2 fun v36 => K35 v36 s30) (K35 (.tup []) s30))) fun K31 => eGuard v13 true (bSub v18 v25 fun v32 => K31 v32 s26) (K31 (.tup []) s26))) fun K27 => eGuard v13 true (pLen false v22 fun v28 => K27 v28 s23) (K27 (.tup []) s23))) fun K24 => eGuard v13 true (K24 v9 s19) (K24 (.tup []) s19))) fun K20 => eGuard v13 true (pLoad s15 false 1 v2 fun v21 => K20 v21 s15) (K20 (.tup []) s15))) fun K16 => eGuard v13 true (pLoad s8 false 1 v3 fun v17 => K16 v17 s8) (K16 (.tup []) s8))))))))))
noncomputable def B_cuts (I : Ids) (R : Rec) (args : List AV) (s3 : ES) : Res := argsK [0,1] args (fun v1 v2 => (pBox s3 (I.t 8) v1 fun v4 s5 => (pBox s5 (I.t 9) v2 fun v6 s7 => (some (.ret (.fn (.func (I.f 22)) [] [v6,v4]) s7)))))
noncomputable def B_cuts1j1 (I : Ids) (R : Rec) (v2 : AV) (v1 : AV) : Cur [] := fun d7 s8 => (pLoad s8 false 1 v2 fun v9 => (pLen false v9 fun v10 => (eCallV R.g R.b v1 [v10] s8 fun v11 s12 => (eLeave d7 s12 fun s13 => (some (.ret (.tup []) s13))))))
noncomputable def B_cuts1j2 (I : Ids) (R : Rec) (v16 : AV) (K15 : Cur [4]) : Cur [] := fun d21 s22 => (bAdd v16 (.i .i64 1) fun v23 => (K15 v23 d21 s22))
noncomputable def B_cuts1j3 (I : Ids) (R : Rec) (v16 : AV) (K15 : Cur [4]) (v3 : AV) (v2 : AV) (v1 : AV) : Cur [] := fun d19 s20 => (jn [] (B_cuts1j2 I R v16 K15) fun K24 => (pLoad s20 true 2 v3 fun v25 => (pLoad s20 false 1 v2 fun v26 => (callK (R.f (I.f 23) [v25,v26,v16] s20) fun v27 s28 => (pExt v27 0 fun v29 => (pExt v27 1 fun v30 => (jv (fun v31 s32 => (jv (fun v35 s36 => (jv (fun v39 s40 => (jv (fun v42 s43 => (jv (fun v45 s46 => (pPick v30 v45 (.b false) fun v49 => (jv (fun v50 s51 => (jv (fun v53 s54 => (jv (fun v56 s57 => (jv (fun v59 s60 => (pPick v49 v59 (.b false) fun v63 => (eCond v63 (eLeave d19 s60 fun s64 => (some (.ret (.tup []) s64))) (K24 d19 s60)))) fun K61 => eGuard v49 true (pUn .not v56 fun v62 => K61 v62 s57) (K61 (.tup []) s57))) fun K58 => eGuard v49 true (eCallV R.g R.b v50 [v53] s54 K58) (K58 (.tup []) s54))) fun K55 => eGuard v49 true (K55 v16 s51) (K55 (.tup []) s51))) fun K52 => eGuard v49 true (K52 v1 s46) (K52 (.tup []) s46)))) fun K47 => eGuard v30 true (pUn .not v42 fun v48 => K47 v48 s43) (K47 (.tup []) s43))) fun K44 => eGuard v30 true (callK (R.f (I.f 24) [v31,v35,v39] s40) K44) (K44 (.tup []) s40))) fun K41 => eGuard v30 true (K41 v16 s36) (K41 (.tup []) s36))) fun K37 => eGuard v30 true (pLoad s32 false 1 v2 fun v38 => K37 v38 s32) (K37 (.tup []) s32))) fun K33 => eGuard v30 true (pLoad s28 true 2 v3 fun v34 => K33 v34 s28) (K33 (.tup []) s28))))))))
noncomputable def B_cuts1l4 (I : Ids) (R : Rec) (v3 : AV) (v2 : AV) (v1 : AV) (K14 : Cur []) : Cur [4] → Cur [4] := fun K15 v16 d17 s18 => (jn [] (B_cuts1j3 I R v16 K15 v3 v2 v1) fun K65 => (pLoad s18 false 1 v2 fun v66 => (pLen false v66 fun v67 => (bLss v16 v67 fun v68 => (eCond v68 (K65 d17 s18) (K14 d17 s18))))))
noncomputable def B_cuts1j5 (I : Ids) (R : Rec) (v2 : AV) (v1 : AV) (v3 : AV) : Cur [] := fun d5 s6 => (jn [] (B_cuts1j1 I R v2 v1) fun K14 => (lp [4] 30000 (B_cuts1l4 I R v3 v2 v1 K14) (.i .i64 1) d5 s6))
noncomputable def B_cuts1 (I : Ids) (R : Rec) (args : List AV) (s4 : ES) : Res := argsK [0,1,2] args (fun v1 v2 v3 => (jn [] (B_cuts1j5 I R v2 v1 v3) fun K69 => (pLoad s4 false 1 v2 fun v70 => (pLen false v70 fun v71 => (bEql v71 (.i .i64 0) fun v72 => (jv (fun v73 s74 => (jv (fun v76 s77 => (jv (fun v79 s80 => (pPick v72 (.b true) v79 fun v83 => (eCond v83 (some (.ret (.tup []) s80)) (K69 [] s80)))) fun K81 => eGuard v72 false (pUn .not v76 fun v82 => K81 v82 s77) (K81 (.tup []) s77))) fun K78 => eGuard v72 false (eCallV R.g R.b v73 [(.i .i64 0)] s74 K78) (K78 (.tup []) s74))) fun K75 => eGuard v72 false (K75 v1 s4) (K75 (.tup []) s4)))))))
noncomputable def B_Cutsj1 (I : Ids) (R : Rec) (v4 : AV) (v2 : AV) : Cur [] := fun d6 s7 => (pLoad s7 true 2 v4 fun v8 => (callK (R.f (I.f 25) [v8,v2] s7) fun v9 s10 => (callK (R.f (I.f 13) [v9] s10) fun v11 s12 => (eLeave d6 s12 fun s13 => (some (.ret v11 s13))))))
noncomputable def B_Cuts (I : Ids) (R : Rec) (args : List AV) (s3 : ES) : Res := argsK [0,1] args (fun v1 v2 => (pBox s3 (I.t 8) v1 fun v4 s5 => (jn [] (B_Cutsj1 I R v4 v2) fun K14 => (pLoad s5 true 2 v4 fun v15 => (callK (R.f (I.f 26) [v15] s5) fun v16 s17 => (pUn .not v16 fun v18 => (eCond v18 (some (.ret (.ns) s17)) (K14 [] s17))))))))
noncomputable def B_CollectI (I : Ids) (R : Rec) (args : List AV) (s2 : ES) : Res := argsK [0] args (fun v1 => (callK (R.f (I.f 27) [(.ns),v1] s2) fun v3 s4 => (some (.ret v3 s4))))
noncomputable def B_AppSeqIj1 (I : Ids) (R : Rec) (v4 : AV) : Cur [] := fun d6 s7 => (pLoad s7 false 1 v4 fun v8 => (eLeave d6 s7 fun s9 => (some (.ret v8 s9))))
noncomputable def B_AppSeqI (I : Ids) (R : Rec) (args : List AV) (s3 : ES) : Res := argsK [0,1] args (fun v1 v2 => (pBox s3 (I.t 12) v1 fun v4 s5 => (jn [] (B_AppSeqIj1 I R v4) fun K10 => (pRange R.h 13 v2 [7] (envL [(2,v4)]) (I.x 2) (I.x 3) [] s5 (fun d11 s12 => (K10 d11 s12)) fun e13 d14 s15 => (xsel 0 e13 (K10 d14 s15) fun e16 => (xfin e16 (eLeave d14 s15 fun s17 => (some (.ret (.ns) s17)))))))))
noncomputable def C0_AppSeqI (I : Ids) (R : Rec) (f : Nat → AV) (s3 : ES) : Res := tmpsK [2,7] f (fun v1 v2 => (some (.ex .normal (envL [(2,v1),(5,v2)]) s3)))
noncomputable def C1_AppSeqI (I : Ids) (R : Rec) (f : Nat → AV) (s3 : ES) : Res := tmpsK [2,5] f (fun v1 v2 => (pLoad s3 false 1 v1 fun v4 => (pLit s3 (I.t 10) 1 1 [(.i .i64 0)] [(0,1,v2)] fun v5 s6 => (pAppend s6 (I.t 10) 1 v4 v5 fun v7 s8 => (pStore s8 1 v1 v7 fun v9 s10 => (some (.ex .normal (envL []) s10)))))))
noncomputable def B_CFS (I : Ids) (R : Rec) (args : List AV) (s3 : ES) : Res := argsK [0,1] args (fun v1 v2 => (callK (R.f (I.f 28) [v1,v2] s3) fun v4 s5 => (bGeq v4 (.i .i64 0) fun v6 => (some (.ret v6 s5)))))
noncomputable def B_IFSj1 (I : Ids) (R : Rec) : Cur [] := fun d4 s5 => (eLeave d4 s5 fun s6 => (some (.ret (.i .i64 (-1)) s6)))
noncomputable def B_IFSj2 (I : Ids) (R : Rec) (v10 : AV) (K9 : Cur [8]) : Cur [] := fun d16 s17 => (bAdd v10 (.i .i64 1) fun v18 => (K9 v18 d16 s17))
noncomputable def B_IFSj3 (I : Ids) (R : Rec) (v10 : AV) (K9 : Cur [8]) (v1 : AV) (v2 : AV) : Cur [] := fun d14 s15 => (jn [] (B_IFSj2 I R v10 K9) fun K19 => (pIadrS s15 1 v1 v10 fun v20 => (pLoad s15 false 1 v20 fun v21 => (eCallV R.g R.b v2 [v21] s15 fun v22 s23 => (eCond v22 (eLeave d14 s23 fun s24 => (some (.ret v10 s24))) (K19 d14 s23))))))
noncomputable def B_IFSl4 (I : Ids) (R : Rec) (v8 : AV) (v1 : AV) (v2 : AV) (K7 : Cur []) : Cur [8] → Cur [8] := fun K9 v10 d11 s12 => (bLss v10 v8 fun v13 => (jn [] (B_IFSj3 I R v10 K9 v1 v2) fun K25 => (eCond v13 (K25 d11 s12) (K7 d11 s12))))
noncomputable def B_IFS (I : Ids) (R : Rec) (args : List AV) (s3 : ES) : Res := argsK [0,1] args (fun v1 v2 => (jn [] (B_IFSj1 I R) fun K7 => (pLen false v1 fun v8 => (lp [8] 30000 (B_IFSl4 I R v8 v1 v2 K7) (.i .i64 0) [] s3))))
noncomputable def B_LWordsj1 (I : Ids) (R : Rec) (v10 : AV) (v11 : AV) : Cur [5,6] := fun v15 v16 d17 s18 => (jv (fun v19 s20 => (jv (fun v23 s24 => (jv (fun v26 s27 => (jv (fun v29 s30 => (jv (fun v33 s34 => (jv (fun v36 s37 => (jv (fun v40 s41 => (pPick v10 v40 (.b false) fun v44 => (eLeave d17 s41 fun s45 => (some (.ret v44 s45))))) fun K42 => eGuard v10 true (bEql v29 v36 fun v43 => K42 v43 s37) (K42 (.tup []) s37))) fun K38 => eGuard v10 true (bAdd v33 (.i .i64 1) fun v39 => K38 v39 s34) (K38 (.tup []) s34))) fun K35 => eGuard v10 true (K35 v16 s30) (K35 (.tup []) s30))) fun K31 => eGuard v10 true (pLen false v26 fun v32 => K31 v32 s27) (K31 (.tup []) s27))) fun K28 => eGuard v10 true (callK (R.f (I.f 29) [v19,v23] s24) K28) (K28 (.tup []) s24))) fun K25 => eGuard v10 true (K25 v15 s20) (K25 (.tup []) s20))) fun K21 => eGuard v10 true (pLoad s18 true 2 v11 fun v22 => K21 v22 s18) (K21 (.tup []) s18))
noncomputable def B_LWordsj2 (I : Ids) (R : Rec) (v50 : AV) (K47 : Cur [5,6,7]) : Cur [5,6] := fun v55 v56 d57 s58 => (bAdd v50 (.i .i64 1) fun v59 => (K47 v55 v56 v59 d57 s58))
noncomputable def B_LWordsj3 (I : Ids) (R : Rec) (v61 : AV) (v48 : AV) (K60 : Cur [5,6]) : Cur [6] := fun v64 d65 s66 => (pLit s66 (I.t 1) 1 1 [(.i .i32 0)] [(0,1,v61)] fun v67 s68 => (pAppend s68 (I.t 1) 1 v48 v67 fun v69 s70 => (K60 v69 v64 d65 s70)))
noncomputable def B_LWordsj4 (I : Ids) (R : Rec) (v48 : AV) (K60 : Cur [5,6]) (v50 : AV) (v49 : AV) : Cur [8] := fun v61 d62 s63 => (jn [6] (B_LWordsj3 I R v61 v48 K60) fun K71 => (bEql v50 (.i .i64 0) fun v72 => (jv (fun v73 s74 => (jv (fun v76 s77 => (jv (fun v80 s81 => (jv (fun v83 s84 => (jv (fun v86 s87 => (jv (fun v90 s91 => (jv (fun v94 s95 => (jv (fun v98 s99 => (jv (fun v102 s103 => (pPick v72 (.b true) v102 fun v106 => (eCond v106 (bAdd v49 (.i .i64 1) fun v107 => (K71 v107 d62 s103)) (K71 v49 d62 s103)))) fun K104 => eGuard v72 false (pEq s99 .bool true v76 v98 fun v105 => K104 v105 s99) (K104 (.tup []) s99))) fun K100 => eGuard v72 false (bEql v94 (.i .i32 32) fun v101 => K100 v101 s95) (K100 (.tup []) s95))) fun K96 => eGuard v72 false (pLoad s91 false 1 v90 fun v97 => K96 v97 s91) (K96 (.tup []) s91))) fun K92 => eGuard v72 false (pIadrS s87 1 v80 v86 fun v93 => K92 v93 s87) (K92 (.tup []) s87))) fun K88 => eGuard v72 false (bSub v83 (.i .i64 1) fun v89 => K88 v89 s84) (K88 (.tup []) s84))) fun K85 => eGuard v72 false (K85 v50 s81) (K85 (.tup []) s81))) fun K82 => eGuard v72 false (K82 v48 s77) (K82 (.tup []) s77))) fun K78 => eGuard v72 false (bEql v73 (.i .i32 32) fun v79 => K78 v79 s74) (K78 (.tup []) s74))) fun K75 => eGuard v72 false (K75 v61 s63) (K75 (.tup []) s63))))
noncomputable def B_LWordsj5 (I : Ids) (R : Rec) (v50 : AV) (K47 : Cur [5,6,7]) (v48 : AV) (v49 : AV) (v1 : AV) : Cur [] := fun d53 s54 => (jn [5,6] (B_LWordsj2 I R v50 K47) fun K60 => (jn [8] (B_LWordsj4 I R v48 K60 v50 v49) fun K108 => (pIadrS s54 1 v1 v50 fun v109 => (pLoad s54 false 1 v109 fun v110 => (bRem v110 (.i .u8 3) fun v111 => (bGtr v111 (.i .u8 0) fun v112 => (eCond v112 (pIadrS s54 1 v1 v50 fun v113 => (pLoad s54 false 1 v113 fun v114 => (bRem v114 (.i .u8 26) fun v115 => (pInt .i32 v115 fun v116 => (bAdd (.i .i32 97) v116 fun v117 => (K108 v117 d53 s54)))))) (K108 (.i .i32 32) d53 s54))))))))
noncomputable def B_LWordsl6 (I : Ids) (R : Rec) (v1 : AV) (K46 : Cur [5,6]) : Cur [5,6,7] → Cur [5,6,7] := fun K47 v48 v49 v50 d51 s52 => (jn [] (B_LWordsj5 I R v50 K47 v48 v49 v1) fun K118 => (pLen false v1 fun v119 => (bLss v50 v119 fun v120 => (eCond v120 (K118 d51 s52) (K46 v48 v49 d51 s52)))))
noncomputable def B_LWordsj7 (I : Ids) (R : Rec) (v1 : AV) : Cur [] := fun d5 s6 => (callK (R.f (I.f 30) [(.s [49,58,32,123,76,101,116,116,101,114,125,32,62,60,32,123,76,101,116,116,101,114,125,10,50,58,32,123,83,112,97,99,101,125,32,62,60,32,123,83,112,97,99,101,125,10])] s6) fun v7 s8 => (pExt v7 0 fun v9 => (pExt v7 1 fun v10 => (pRow s8 (I.t 8) [(.ns),(.ns)] fun v11 s12 => (pStore s12 2 v11 v9 fun v13 s14 => (jn [5,6] (B_LWordsj1 I R v10 v11) fun K46 => (lp [5,6,7] 30000 (B_LWordsl6 I R v1 K46) (.ns) (.i .i64 0) (.i .i64 0) d5 s14)))))))
noncomputable def B_LWordsj8 (I : Ids) (R : Rec) (v1 : AV) : Cur [] := fun d3 s4 => (jn [] (B_LWordsj7 I R v1) fun K121 => (pLen false v1 fun v122 => (bGtr v122 (.i .i64 50) fun v123 => (jv (fun v124 s125 => (jv (fun v127 s128 => (jv (fun v131 s132 => (pPick v123 (.b true) v131 fun v135 => (eCond v135 (eLeave d3 s132 fun s136 => (some (.ret (.b true) s136))) (K121 d3 s132)))) fun K133 => eGuard v123 false (bEql v127 (.i .i64 0) fun v134 => K133 v134 s128) (K133 (.tup []) s128))) fun K129 => eGuard v123 false (pLen false v124 fun v130 => K129 v130 s125) (K129 (.tup []) s125))) fun K126 => eGuard v123 false (K126 v1 s4) (K126 (.tup []) s4)))))
noncomputable def B_LWords (I : Ids) (R : Rec) (args : List AV) (s2 : ES) : Res := argsK [0] args (fun v1 => (jn [] (B_LWordsj8 I R v1) fun K137 => (callK (R.f (I.f 31) [] s2) fun v138 s139 => (pUn .not v138 fun v140 => (eCond v140 (some (.ret (.b false) s139)) (K137 [] s139))))))
noncomputable def B_LCutj1 (I : Ids) (R : Rec) (v11 : AV) (v20 : AV) : Cur [13] := fun v37 d38 s39 => (jv (fun v40 s41 => (jv (fun v43 s44 => (jv (fun v46 s47 => (pPick v11 v46 (.b false) fun v49 => (eLeave d38 s47 fun s50 => (some (.ret v49 s50))))) fun K48 => eGuard v11 true (callK (R.f (I.f 32) [v40,v43] s44) K48) (K48 (.tup []) s44))) fun K45 => eGuard v11 true (K45 v20 s41) (K45 (.tup []) s41))) fun K42 => eGuard v11 true (K42 v37 s39) (K42 (.tup []) s39))
noncomputable def B_LCutj2 (I : Ids) (R : Rec) (v54 : AV) (K52 : Cur [13,14]) : Cur [13] := fun v59 d60 s61 => (bAdd v54 (.i .i64 1) fun v62 => (K52 v59 v62 d60 s61))
noncomputable def B_LCutj3 (I : Ids) (R : Rec) (v54 : AV) (K52 : Cur [13,14]) (v33 : AV) (v26 : AV) (v53 : AV) : Cur [] := fun d57 s58 => (jn [13] (B_LCutj2 I R v54 K52) fun K63 => (bGtr v54 (.i .i64 0) fun v64 => (jv (fun v65 s66 => (jv (fun v68 s69 => (pPick v64 (.b true) v68 fun v72 => (eCond v72 (pIadrS s69 1 v33 v54 fun v73 => (pLoad s69 false 1 v73 fun v74 => (bAdd v74 v26 fun v75 => (pLit s69 (I.t 10) 1 1 [(.i .i64 0)] [(0,1,v75)] fun v76 s77 => (pAppend s77 (I.t 10) 1 v53 v76 fun v78 s79 => (K63 v78 d57 s79)))))) (K63 v53 d57 s69)))) fun K70 => eGuard v64 false (bEql v65 (.i .i64 0) fun v71 => K70 v71 s66) (K70 (.tup []) s66))) fun K67 => eGuard v64 false (K67 v26 s58) (K67 (.tup []) s58))))
noncomputable def B_LCutl4 (I : Ids) (R : Rec) (v33 : AV) (v26 : AV) (K51 : Cur [13]) : Cur [13,14] → Cur [13,14] := fun K52 v53 v54 d55 s56 => (jn [] (B_LCutj3 I R v54 K52 v33 v26 v53) fun K80 => (pLen false v33 fun v81 => (bLss v54 v81 fun v82 => (eCond v82 (K80 d55 s56) (K51 v53 d55 s56)))))
noncomputable def B_LCutj5 (I : Ids) (R : Rec) (v12 : AV) (v2 : AV) (v11 : AV) : Cur [7] := fun v16 d17 s18 => (pLoad s18 true 2 v12 fun v19 => (callK (R.f (I.f 29) [v19,v16] s18) fun v20 s21 => (pInt .i64 v2 fun v22 => (pLen false v20 fun v23 => (bRem v22 v23 fun v24 => (pIadrS s21 1 v20 v24 fun v25 => (pLoad s21 false 1 v25 fun v26 => (pLoad s21 true 2 v12 fun v27 => (pLsl s21 1 v16 none (some v26) none fun v28 => (pLoad s21 true 2 v12 fun v29 => (pLsl s21 1 v16 (some v26) none none fun v30 => (callK (R.f (I.f 29) [v27,v28] s21) fun v31 s32 => (pLsl s32 1 v16 (some v26) none none fun v84 => (cond (avEq v84 v30) (pLoad s32 true 2 v12 fun v83 => (cond (avEq v83 v29) (callK (R.f (I.f 29) [v29,v30] s32) fun v33 s34 => (pAppend s34 (I.t 10) 1 (.ns) v31 fun v35 s36 => (jn [13] (B_LCutj1 I R v11 v20) fun K51 => (lp [13,14] 30000 (B_LCutl4 I R v33 v26 K51) v35 (.i .i64 0) d17 s36)))) none)) none))))))))))))))
noncomputable def B_LCutj6 (I : Ids) (R : Rec) (v88 : AV) (K86 : Cur [7,8]) : Cur [7] := fun v93 d94 s95 => (bAdd v88 (.i .i64 1) fun v96 => (K86 v93 v96 d94 s95))
noncomputable def B_LCutj7 (I : Ids) (R : Rec) (v88 : AV) (K86 : Cur [7,8]) (v1 : AV) (v87 : AV) : Cur [] := fun d91 s92 => (jn [7] (B_LCutj6 I R v88 K86) fun K97 => (pLit s92 (I.t 1) 1 6 [(.i .i32 0),(.i .i32 0),(.i .i32 0),(.i .i32 0),(.i .i32 0),(.i .i32 0)] [(0,1,(.i .i32 97)),(1,1,(.i .i32 49)),(2,1,(.i .i32 769)),(3,1,(.i .i32 46)),(4,1,(.i .i32 32)),(5,1,(.i .i32 19968))] fun v98 s99 => (pIadrS s99 1 v1 v88 fun v100 => (pLoad s99 false 1 v100 fun v101 => (bRem v101 (.i .u8 6) fun v102 => (pIadrS s99 1 v98 v102 fun v103 => (pLoad s99 false 1 v103 fun v104 => (pLit s99 (I.t 1) 1 1 [(.i .i32 0)] [(0,1,v104)] fun v105 s106 => (pAppend s106 (I.t 1) 1 v87 v105 fun v107 s108 => (K97 v107 d91 s108))))))))))
noncomputable def B_LCutl8 (I : Ids) (R : Rec) (v1 : AV) (K85 : Cur [7]) : Cur [7,8] → Cur [7,8] := fun K86 v87 v88 d89 s90 => (jn [] (B_LCutj7 I R v88 K86 v1 v87) fun K109 => (pLen false v1 fun v110 => (bLss v88 v110 fun v111 => (eCond v111 (K109 d89 s90) (K85 v87 d89 s90)))))
noncomputable def B_LCutj9 (I : Ids) (R : Rec) (v2 : AV) (v1 : AV) : Cur [] := fun d6 s7 => (callK (R.f (I.f 30) [(.s [49,58,32,123,76,101,116,116,101,114,125,32,62,60,32,123,76,101,116,116,101,114,125,10,50,58,32,123,68,105,103,105,116,125,32,62,60,32,123,68,105,103,105,116,125,10,51,58,32,46,32,62,60,32,123,77,97,114,107,125,10,52,58,32,123,80,117,110,99,116,125,32,62,60,32,123,83,112,97,99,101,125,10])] s7) fun v8 s9 => (pExt v8 0 fun v10 => (pExt v8 1 fun v11 => (pRow s9 (I.t 8) [(.ns),(.ns)] fun v12 s13 => (pStore s13 2 v12 v10 fun v14 s15 => (jn [7] (B_LCutj5 I R v12 v2 v11) fun K85 => (lp [7,8] 30000 (B_LCutl8 I R v1 K85) (.ns) (.i .i64 0) d6 s15)))))))
noncomputable def B_LCutj10 (I : Ids) (R : Rec) (v2 : AV) (v1 : AV) : Cur [] := fun d4 s5 => (jn [] (B_LCutj9 I R v2 v1) fun K112 => (pLen false v1 fun v113 => (bGtr v113 (.i .i64 30) fun v114 => (jv (fun v115 s116 => (jv (fun v118 s119 => (jv (fun v122 s123 => (pPick v114 (.b true) v122 fun v126 => (eCond v126 (eLeave d4 s123 fun s127 => (some (.ret (.b true) s127))) (K112 d4 s123)))) fun K124 => eGuard v114 false (bLss v118 (.i .i64 2) fun v125 => K124 v125 s119) (K124 (.tup []) s119))) fun K120 => eGuard v114 false (pLen false v115 fun v121 => K120 v121 s116) (K120 (.tup []) s116))) fun K117 => eGuard v114 false (K117 v1 s5) (K117 (.tup []) s5)))))
noncomputable def B_LCut (I : Ids) (R : Rec) (args : List AV) (s3 : ES) : Res := argsK [0,1] args (fun v1 v2 => (jn [] (B_LCutj10 I R v2 v1) fun K128 => (callK (R.f (I.f 31) [] s3) fun v129 s130 => (pUn .not v129 fun v131 => (eCond v131 (some (.ret (.b false) s130)) (K128 [] s130))))))
noncomputable def B_ints17j1 (I : Ids) (R : Rec) : Cur [] := fun d6 s7 => (eLeave d6 s7 fun s8 => (some (.ret (.b true) s8)))
noncomputable def B_ints17j2 (I : Ids) (R : Rec) (v11 : AV) (K10 : Cur [5]) : Cur [] := fun d16 s17 => (bAdd v11 (.i .i64 1) fun v18 => (K10 v18 d16 s17))
noncomputable def B_ints17j3 (I : Ids) (R : Rec) (v11 : AV) (K10 : Cur [5]) (v1 : AV) (v2 : AV) : Cur [] := fun d14 s15 => (jn [] (B_ints17j2 I R v11 K10) fun K19 => (pIadrS s15 1 v1 v11 fun v20 => (pLoad s15 false 1 v20 fun v21 => (pIadrS s15 1 v2 v11 fun v22 => (pLoad s15 false 1 v22 fun v23 => (bNeq v21 v23 fun v24 => (eCond v24 (eLeave d14 s15 fun s25 => (some (.ret (.b false) s25))) (K19 d14 s15))))))))
noncomputable def B_ints17l4 (I : Ids) (R : Rec) (v1 : AV) (v2 : AV) (K9 : Cur []) : Cur [5] → Cur [5] := fun K10 v11 d12 s13 => (jn [] (B_ints17j3 I R v11 K10 v1 v2) fun K26 => (pLen false v1 fun v27 => (bLss v11 v27 fun v28 => (eCond v28 (K26 d12 s13) (K9 d12 s13)))))
noncomputable def B_ints17j5 (I : Ids) (R : Rec) (v1 : AV) (v2 : AV) : Cur [] := fun d4 s5 => (jn [] (B_ints17j1 I R) fun K9 => (lp [5] 30000 (B_ints17l4 I R v1 v2 K9) (.i .i64 0) d4 s5))
noncomputable def B_ints17 (I : Ids) (R : Rec) (args : List AV) (s3 : ES) : Res := argsK [0,1] args (fun v1 v2 => (jn [] (B_ints17j5 I R v1 v2) fun K29 => (pLen false v1 fun v30 => (pLen false v2 fun v31 => (bNeq v30 v31 fun v32 => (eCond v32 (some (.ret (.b false) s3)) (K29 [] s3)))))))
end Hb
end
