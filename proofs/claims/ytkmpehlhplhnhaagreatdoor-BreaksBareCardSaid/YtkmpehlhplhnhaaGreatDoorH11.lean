/- A layer for programs of small data: values, stores, code, and an evaluator of code that the kernel runs; part 11. -/
import Derived.Test.YtkmpehlhplhnhaaGreatDoorH10

section
set_option linter.unusedVariables false
set_option linter.unusedSimpArgs false
set_option linter.constructorNameAsVariable false
set_option autoImplicit false
set_option linter.unusedVariables false
set_option linter.unusedSimpArgs false
set_option linter.constructorNameAsVariable false
namespace Hb
open Go
theorem TR.wv_wv (v w : Option Blk) (t : TR) : TR.wv v (TR.wv w t) = TR.wv v t := by cases t <;> rfl
theorem TR.ch_wv (v : Option Blk) (d : Dg) (t : TR) : TR.ch d (TR.wv v t) = TR.ch d t := by cases t <;> cases d <;> rfl
theorem TR.ch_wc (t : TR) (d : Dg) (z : TR) : TR.ch d (TR.wc t d z) = z := by cases t <;> cases d <;> rfl
theorem TR.ch_wc_ne (t : TR) {d d' : Dg} (z : TR) (h : d' ≠ d) : TR.ch d' (TR.wc t d z) = TR.ch d' t := by cases t <;> cases d <;> cases d' <;> first | rfl | exact absurd rfl h
theorem TR.wc_wc (t : TR) (d : Dg) (z z' : TR) : TR.wc (TR.wc t d z) d z' = TR.wc t d z' := by cases t <;> cases d <;> rfl
theorem TR.wc_wc_ne (t : TR) {d d' : Dg} (z z' : TR) (h : d' ≠ d) : TR.wc (TR.wc t d z) d' z' = TR.wc (TR.wc t d' z') d z := by cases t <;> cases d <;> cases d' <;> first | rfl | exact absurd rfl h
theorem TR.wc_wv (v : Option Blk) (t : TR) (d : Dg) (z : TR) : TR.wc (TR.wv v t) d z = TR.wv v (TR.wc t d z) := by cases t <;> cases d <;> rfl
theorem TR.setP_setP (v w : Option Blk) : ∀ (p : List Dg) (t : TR), TR.setP v p (TR.setP w p t) = TR.setP v p t
  | [], t => TR.wv_wv v w t
  | d :: p, t => by
    show TR.wc (TR.wc t d (TR.setP w p (t.ch d))) d (TR.setP v p (TR.ch d (TR.wc t d (TR.setP w p (t.ch d))))) = TR.wc t d (TR.setP v p (t.ch d))
    rw [TR.ch_wc, TR.wc_wc, TR.setP_setP v w p]
theorem TR.setP_comm (v w : Option Blk) : ∀ (p q : List Dg) (t : TR), p ≠ q → TR.setP v p (TR.setP w q t) = TR.setP w q (TR.setP v p t)
  | [], [], t, h => absurd rfl h
  | [], d :: q, t, _ => by
    show TR.wv v (TR.wc t d (TR.setP w q (t.ch d))) = TR.wc (TR.wv v t) d (TR.setP w q (TR.ch d (TR.wv v t)))
    rw [TR.ch_wv, TR.wc_wv]
  | d :: p, [], t, _ => by
    show TR.wc (TR.wv w t) d (TR.setP v p (TR.ch d (TR.wv w t))) = TR.wv w (TR.wc t d (TR.setP v p (t.ch d)))
    rw [TR.ch_wv, TR.wc_wv]
  | d :: p, d' :: q, t, h => by
    show TR.wc (TR.wc t d' (TR.setP w q (t.ch d'))) d (TR.setP v p (TR.ch d (TR.wc t d' (TR.setP w q (t.ch d'))))) = TR.wc (TR.wc t d (TR.setP v p (t.ch d))) d' (TR.setP w q (TR.ch d' (TR.wc t d (TR.setP v p (t.ch d)))))
    by_cases hd : d = d'
    · subst hd
      rw [TR.ch_wc, TR.ch_wc, TR.wc_wc, TR.wc_wc, TR.setP_comm v w p q _ (fun e => h (by rw [e]))]
    · rw [TR.ch_wc_ne _ _ hd, TR.ch_wc_ne _ _ (fun e => hd e.symm), TR.wc_wc_ne _ _ _ hd]
theorem TR.set_set (v w : Option Blk) (t : TR) (r : Nat) : TR.set (TR.set t r w) r v = TR.set t r v := TR.setP_setP v w _ _
theorem TR.set_comm (v w : Option Blk) (t : TR) {r q : Nat} (h : r ≠ q) : TR.set (TR.set t q w) r v = TR.set (TR.set t r v) q w := TR.setP_comm v w _ _ _ (fun e => h (path_inj.1 e))
def trL (i : Nat) : List (Option Blk) → TR → TR
  | [], t => t
  | b :: l, t => trL (i + 1) l (TR.set t i b)
theorem trL_app : ∀ (l m : List (Option Blk)) (i : Nat) (t : TR), trL i (l ++ m) t = trL (i + l.length) m (trL i l t)
  | [], m, i, t => rfl
  | b :: l, m, i, t => by
    show trL (i + 1) (l ++ m) _ = _
    rw [trL_app l m (i + 1)]
    show trL (i + 1 + l.length) m _ = trL (i + (l.length + 1)) m _
    rw [show i + 1 + l.length = i + (l.length + 1) from by omega]
    rfl
theorem trL_set_lt (v : Option Blk) : ∀ (l : List (Option Blk)) (i r : Nat) (t : TR), r < i → TR.set (trL i l t) r v = trL i l (TR.set t r v)
  | [], i, r, t, h => rfl
  | b :: l, i, r, t, h => by
    show TR.set (trL (i + 1) l (TR.set t i b)) r v = trL (i + 1) l (TR.set (TR.set t r v) i b)
    rw [trL_set_lt v l (i + 1) r _ (by omega), TR.set_comm v b t (by omega)]
theorem trL_set (v : Option Blk) : ∀ (l : List (Option Blk)) (i r : Nat) (t : TR), r < l.length → TR.set (trL i l t) (i + r) v = trL i (l.set r v) t
  | [], i, r, t, h => absurd h (by simp)
  | b :: l, i, 0, t, h => by
    show TR.set (trL (i + 1) l (TR.set t i b)) i v = trL (i + 1) l (TR.set t i v)
    rw [trL_set_lt v l (i + 1) _ _ (by omega), TR.set_set]
  | b :: l, i, r + 1, t, h => by
    show TR.set (trL (i + 1) l (TR.set t i b)) (i + (r + 1)) v = trL (i + 1) (l.set r v) (TR.set t i b)
    rw [show i + (r + 1) = i + 1 + r from by omega, trL_set v l (i + 1) r _ (by simpa using h)]
theorem trL_get_lt : ∀ (l : List (Option Blk)) (i r : Nat) (t : TR), r < i → (trL i l t).get r = t.get r
  | [], i, r, t, h => rfl
  | b :: l, i, r, t, h => by
    show (trL (i + 1) l (TR.set t i b)).get r = _
    rw [trL_get_lt l (i + 1) r _ (by omega), TR.get_set, if_neg (by omega)]
theorem trL_get : ∀ (l : List (Option Blk)) (i r : Nat) (t : TR), r < l.length → (trL i l t).get (i + r) = (l[r]?).getD none
  | [], i, r, t, h => absurd h (by simp)
  | b :: l, i, 0, t, h => by
    show (trL (i + 1) l (TR.set t i b)).get (i + 0) = b
    rw [trL_get_lt l (i + 1) _ _ (by omega), TR.get_set, if_pos (by omega)]
  | b :: l, i, r + 1, t, h => by
    show (trL (i + 1) l (TR.set t i b)).get (i + (r + 1)) = ((b :: l)[r + 1]?).getD none
    rw [show i + (r + 1) = i + 1 + r from by omega, trL_get l (i + 1) r _ (by simpa using h)]
    simp
def S (l : List (Option Blk)) (nx : Nat) : ES := ⟨trL 0 l .e, l.length, nx⟩
theorem S_get {l : List (Option Blk)} {nx r : Nat} {b : Blk} (h : l[r]? = some (some b)) : (S l nx).t.get r = some b := by
  have hr : r < l.length := (List.getElem?_eq_some_iff.1 h).1
  have := trL_get l 0 r .e hr
  rw [Nat.zero_add] at this
  show (trL 0 l .e).get r = _
  rw [this, h]; rfl
theorem S_sAt {l : List (Option Blk)} {nx r st : Nat} {b : Blk} {k : Blk → Res} (h : l[r]? = some (some b)) (hb : b.st = st) : sAt (S l nx) r st k = k b :=
  sAt_of (show r < l.length from (List.getElem?_eq_some_iff.1 h).1) (S_get h) hb
theorem S_push {l : List (Option Blk)} {nx : Nat} {b : Nat → Blk} {k : Nat → Nat → ES → Res} (h : l.length ≤ 999999999) : pPush (S l nx) b k = k l.length nx (S (l ++ [some (b nx)]) (nx + 1)) := by
  rw [pPush_of (show (S l nx).n ≤ _ from h)]
  have : (S l nx).push (b (S l nx).nx) = S (l ++ [some (b nx)]) (nx + 1) := by
    show (⟨TR.set (trL 0 l .e) l.length (some (b nx)), l.length + 1, nx + 1⟩ : ES) = ⟨trL 0 (l ++ [some (b nx)]) .e, (l ++ [some (b nx)]).length, nx + 1⟩
    rw [trL_app]
    simp [trL]
  rw [this]; rfl
theorem S_put {l : List (Option Blk)} {nx r : Nat} {b : Option Blk} {k : ES → Res} (h : r < l.length) (hl : l.length ≤ 999999999) : pPut (S l nx) r b k = k (S (l.set r b) nx) := by
  rw [pPut_of (by omega)]
  have : (S l nx).put r b = S (l.set r b) nx := by
    show (⟨TR.set (trL 0 l .e) r b, l.length, nx⟩ : ES) = ⟨trL 0 (l.set r b) .e, (l.set r b).length, nx⟩
    have := trL_set b l 0 r .e h
    rw [Nat.zero_add] at this
    rw [this, List.length_set]
  rw [this]
theorem S_put1 {l : List (Option Blk)} {nx r : Nat} {b : Nat → Blk} {k : Nat → ES → Res} (h : r < l.length) (hl : l.length ≤ 999999999) : pPut1 (S l nx) r b k = k nx (S (l.set r (some (b nx))) (nx + 1)) := by
  rw [pPut1_of (by omega)]
  have : (S l nx).put1 r (some (b (S l nx).nx)) = S (l.set r (some (b nx))) (nx + 1) := by
    show (⟨TR.set (trL 0 l .e) r (some (b nx)), l.length, nx + 1⟩ : ES) = ⟨trL 0 (l.set r (some (b nx))) .e, (l.set r (some (b nx))).length, nx + 1⟩
    have := trL_set (some (b nx)) l 0 r .e h
    rw [Nat.zero_add] at this
    rw [this, List.length_set]
  rw [this]; rfl
theorem S_nil : (S [] 0) = ⟨.e, 0, 0⟩ := rfl
theorem S_st (l : List (Option Blk)) (nx : Nat) : (S l nx).st = (l, nx) := by
  refine Prod.ext (List.ext_getElem? fun r => ?_) rfl
  rw [ES.get?]
  by_cases h : r < l.length
  · have := trL_get l 0 r .e h
    rw [Nat.zero_add] at this
    rw [if_pos (show r < (S l nx).n from h)]
    show some ((trL 0 l .e).get r) = l[r]?
    rw [this, List.getElem?_eq_getElem h]; rfl
  · rw [if_neg (show ¬ r < (S l nx).n from h)]
    exact (List.getElem?_eq_none (show l.length ≤ r by omega)).symm
theorem jn_d (A : List Nat) (K : Cur A) (B : Cur A → Res) : jn A K B = B K := rfl
theorem jv_d (k : KV) (B : KV → Res) : jv k B = B k := rfl
theorem jr_d (k : Res) (B : Res → Res) : jr k B = B k := rfl
theorem lp_s (A : List Nat) (n : Nat) (B : Cur A → Cur A) : lp A (n + 1) B = B (lp A n B) := rfl
theorem callK_ret (v : AV) (s : ES) (k : KV) : callK (some (.ret v s)) k = k v s := rfl
theorem exK_ex (e : XExit) (f : Nat → AV) (s : ES) (k : XExit → (Nat → AV) → ES → Res) : exK (some (.ex e f s)) k = k e f s := rfl
theorem callK_if (p : Prop) [Decidable p] (a b : Res) (k : KV) : callK (if p then a else b) k = if p then callK a k else callK b k := by by_cases h : p <;> simp [h]
theorem eCond_b (t : Bool) (x y : Res) : eCond (.b t) x y = cond t x y := by rw [eCond_def]
theorem eGuard_b (y want : Bool) (a b : Res) : eGuard (.b y) want a b = cond (cond want y (!y)) a b := by rw [eGuard_def]
theorem pPick_b (t : Bool) (a b : AV) (k : KP) : pPick (.b t) a b k = cond t (k a) (k b) := by rw [pPick_def]; simp only [cnd_eq]
theorem bK_b (t : Bool) (k : KP) : bK t k = k (.b t) := by cases t <;> rfl
theorem pUn_not (t : Bool) (k : KP) : pUn .not (.b t) k = k (.b (!t)) := by show bK (!t) k = _; rw [bK_b]
theorem eLeave_nil (s : ES) (k : ES → Res) : eLeave [] s k = k s := rfl
theorem args0 (C : Res) : argsK [] [] C = C := rfl
theorem args1 (x : Nat) (C : AV → Res) (v : AV) : argsK [x] [v] C = C v := rfl
theorem args2 (x y : Nat) (C : AV → AV → Res) (v w : AV) : argsK [x, y] [v, w] C = C v w := rfl
theorem args3 (x y z : Nat) (C : AV → AV → AV → Res) (v w u : AV) : argsK [x, y, z] [v, w, u] C = C v w u := rfl
theorem args4 (x y z t : Nat) (C : AV → AV → AV → AV → Res) (v w u r : AV) : argsK [x, y, z, t] [v, w, u, r] C = C v w u r := rfl
theorem wrap64 {n : Int} (h1 : -9223372036854775808 ≤ n) (h2 : n ≤ 9223372036854775807) : IntKind.i64.wrap n = n := by
  simp only [IntKind.wrap, IntKind.bits, IntKind.signed]; simp; omega
theorem wrap32 {n : Int} (h1 : -2147483648 ≤ n) (h2 : n ≤ 2147483647) : IntKind.i32.wrap n = n := by
  simp only [IntKind.wrap, IntKind.bits, IntKind.signed]; simp; omega
theorem wrapu8 {n : Int} (h1 : 0 ≤ n) (h2 : n ≤ 255) : IntKind.u8.wrap n = n := by
  simp only [IntKind.wrap, IntKind.bits, IntKind.signed]; simp; omega
theorem wrapu64 {n : Int} (h1 : 0 ≤ n) (h2 : n ≤ 18446744073709551615) : IntKind.u64.wrap n = n := by
  simp only [IntKind.wrap, IntKind.bits, IntKind.signed]; simp; omega
theorem wrapu32 {n : Int} (h1 : 0 ≤ n) (h2 : n ≤ 4294967295) : IntKind.u32.wrap n = n := by
  simp only [IntKind.wrap, IntKind.bits, IntKind.signed]; simp; omega
theorem kEq_refl (k : IntKind) : kEq k k = true := by rw [kEq_eq]; simp
theorem pI2_i (gi : IntKind → Int → Int → Res) (gs : List Nat → List Nat → Res) (kd : IntKind) (a b : Int) : pI2 gi gs (.i kd a) (.i kd b) = gi kd a b := by
  show cnd (kEq kd kd) (gi kd a b) none = _
  rw [kEq_refl]; rfl
theorem pI2_s (gi : IntKind → Int → Int → Res) (gs : List Nat → List Nat → Res) (a b : List Nat) : pI2 gi gs (.s a) (.s b) = gs a b := rfl
theorem bAdd_i (kd : IntKind) (a b : Int) (k : KP) : bAdd (.i kd a) (.i kd b) k = k (.i kd (kd.wrap (a + b))) := by rw [bAdd, pI2_i, iAdd_eq]
theorem bSub_i (kd : IntKind) (a b : Int) (k : KP) : bSub (.i kd a) (.i kd b) k = k (.i kd (kd.wrap (a - b))) := by rw [bSub, pI2_i, iSub_eq]
theorem bMul_i (kd : IntKind) (a b : Int) (k : KP) : bMul (.i kd a) (.i kd b) k = k (.i kd (kd.wrap (a * b))) := by rw [bMul, pI2_i, iMul_eq]
theorem bQuo_i (kd : IntKind) (a b : Int) (k : KP) : bQuo (.i kd a) (.i kd b) k = if b = 0 then none else k (.i kd (kd.wrap (a.tdiv b))) := by rw [bQuo, pI2_i, iQuo_eq]
theorem bRem_i (kd : IntKind) (a b : Int) (k : KP) : bRem (.i kd a) (.i kd b) k = if b = 0 then none else k (.i kd (a.tmod b)) := by rw [bRem, pI2_i, iRem_eq]
theorem bEql_i (kd : IntKind) (a b : Int) (k : KP) : bEql (.i kd a) (.i kd b) k = k (.b (decide (a = b))) := by rw [bEql, pI2_i, bK_b, iEq_eq]
theorem bNeq_i (kd : IntKind) (a b : Int) (k : KP) : bNeq (.i kd a) (.i kd b) k = k (.b (!decide (a = b))) := by rw [bNeq, pI2_i, bK_b, iEq_eq]
theorem bLss_i (kd : IntKind) (a b : Int) (k : KP) : bLss (.i kd a) (.i kd b) k = k (.b (decide (a < b))) := by rw [bLss, pI2_i, bK_b, iLt_eq]
theorem bLeq_i (kd : IntKind) (a b : Int) (k : KP) : bLeq (.i kd a) (.i kd b) k = k (.b (decide (a ≤ b))) := by rw [bLeq, pI2_i, bK_b, iLe_eq]
theorem bGtr_i (kd : IntKind) (a b : Int) (k : KP) : bGtr (.i kd a) (.i kd b) k = k (.b (decide (b < a))) := by rw [bGtr, pI2_i, bK_b, iLt_eq]
theorem bGeq_i (kd : IntKind) (a b : Int) (k : KP) : bGeq (.i kd a) (.i kd b) k = k (.b (decide (b ≤ a))) := by rw [bGeq, pI2_i, bK_b, iLe_eq]
theorem bEql_s (a b : List Nat) (k : KP) : bEql (.s a) (.s b) k = k (.b (a == b)) := by rw [bEql, pI2_s, bK_b, natEqL_eq]
theorem bNeq_s (a b : List Nat) (k : KP) : bNeq (.s a) (.s b) k = k (.b (!(a == b))) := by rw [bNeq, pI2_s, bK_b, natEqL_eq]
theorem bLss_s (a b : List Nat) (k : KP) : bLss (.s a) (.s b) k = k (.b (natLess a b)) := by rw [bLss, pI2_s, bK_b, natLtL_eq]
theorem bAdd_s {a b : List Nat} {k : KP} (h : a.length + b.length ≤ 4611686018427387903) : bAdd (.s a) (.s b) k = k (.s (a ++ b)) := by
  rw [bAdd, pI2_s, sAdd, lenR_eq, lenR_eq, appK_eq, Nat.ble_eq_true_of_le (show Nat.add a.length b.length ≤ _ from h)]; rfl
theorem pInt_i (kd kd' : IntKind) (n : Int) (k : KP) : pInt kd (.i kd' n) k = k (.i kd (kd.wrap n)) := by rw [pInt_def]; exact wrapK_eq kd n k
theorem pLen_s (l : List Nat) (k : KP) : pLen true (.s l) k = k (.i .i64 (l.length : Nat)) := by
  rw [pLen_def]; simp only [frcN_eq, lenR_eq, cnd_eq, cond_true]; rfl
theorem pLen_sl (kk n : Nat) (cs : List AV) (k : KP) : pLen false (.sl kk n cs) k = k (.i .i64 (n : Nat)) := by rw [pLen_def]; rfl
theorem pLen_gr (r st i n kk : Nat) (k : KP) : pLen false (.gr r st i n kk) k = k (.i .i64 (n : Nat)) := by rw [pLen_def]; rfl
theorem pLen_ns (k : KP) : pLen false .ns k = k (.i .i64 0) := by rw [pLen_def]; rfl
theorem pLen_sz (k : KP) : pLen false .sz k = k (.i .i64 0) := by rw [pLen_def]; rfl
theorem pIdxs_s {l : List Nat} {kd : IntKind} {z : Int} {n c : Nat} {k : KP} (hz : z = (n : Nat)) (h : l[n]? = some c) : pIdxs (.s l) (.i kd z) k = k (.i .u8 (c : Nat)) := by
  subst hz
  rw [pIdxs_def]
  show (dropK l n fun d => (match d with | c :: _ => k (.i .u8 (.ofNat c)) | [] => none)) = _
  rw [dropK_eq]
  have : (l.drop n).head? = some c := by rw [drop_head]; exact h
  cases hd : l.drop n with
  | nil => rw [hd] at this; cases this
  | cons a t => rw [hd] at this; cases this; rfl
theorem boundK_n {n d m : Nat} {kd : IntKind} {z : Int} {k : Nat → Res} (hz : z = (m : Nat)) (h : m ≤ n) : boundK n (some (.i kd z)) d k = k m := by
  subst hz
  show cond (Nat.ble m n) (k m) none = _
  rw [Nat.ble_eq_true_of_le h]; rfl
theorem pSsl_ff {l : List Nat} {lo hi : Int} {p q : Nat} {kd kd' : IntKind} {k : KP} (h1 : lo = (p : Nat)) (h2 : hi = (q : Nat)) (hpq : p ≤ q) (hq : q ≤ l.length) : pSsl (.s l) (some (.i kd lo)) (some (.i kd' hi)) k = k (.s ((l.drop p).take (q - p))) := by
  show (frcN (lenR l) fun n => boundsK n (some (.i kd lo)) (some (.i kd' hi)) fun p q => dropK l p fun d => cond (Nat.beq q n) (k (.s d)) (takeK d (Nat.sub q p) fun l => k (.s l))) = _
  rw [frcN_eq, lenR_eq]
  unfold boundsK
  rw [boundK_n h2 hq, boundK_n h1 hpq]
  show (dropK l p fun d => cond (Nat.beq q l.length) (k (.s d)) (takeK d (Nat.sub q p) fun l => k (.s l))) = _
  rw [dropK_eq, takeK_eq, beqN]
  by_cases e : q = l.length
  · simp only [e, decide_true, cond_true]
    rw [List.take_of_length_le (by simp)]
  · simp only [e, decide_false, cond_false]; rfl
theorem pSsl_fn {l : List Nat} {lo : Int} {p : Nat} {kd : IntKind} {k : KP} (h1 : lo = (p : Nat)) (hp : p ≤ l.length) : pSsl (.s l) (some (.i kd lo)) none k = k (.s (l.drop p)) := by
  show (frcN (lenR l) fun n => boundsK n (some (.i kd lo)) none fun p q => dropK l p fun d => cond (Nat.beq q n) (k (.s d)) (takeK d (Nat.sub q p) fun l => k (.s l))) = _
  rw [frcN_eq, lenR_eq]
  show (boundK l.length (some (.i kd lo)) 0 fun p => dropK l p fun d => cond (Nat.beq l.length l.length) (k (.s d)) (takeK d (Nat.sub l.length p) fun l => k (.s l))) = _
  rw [boundK_n h1 hp, dropK_eq, beqN]; simp
theorem pSsl_nf {l : List Nat} {hi : Int} {q : Nat} {kd : IntKind} {k : KP} (h2 : hi = (q : Nat)) (hq : q ≤ l.length) : pSsl (.s l) none (some (.i kd hi)) k = k (.s (l.take q)) := by
  show (frcN (lenR l) fun n => boundsK n none (some (.i kd hi)) fun p q => dropK l p fun d => cond (Nat.beq q n) (k (.s d)) (takeK d (Nat.sub q p) fun l => k (.s l))) = _
  rw [frcN_eq, lenR_eq]
  unfold boundsK
  rw [boundK_n h2 hq]
  show (dropK l 0 fun d => cond (Nat.beq q l.length) (k (.s d)) (takeK d (Nat.sub q 0) fun l => k (.s l))) = _
  rw [dropK_eq, takeK_eq, beqN]
  by_cases e : q = l.length
  · simp [e]
  · simp only [e, decide_false, cond_false]; rfl
theorem pRow_S {l : List (Option Blk)} {nx T : Nat} {cs : List AV} {k : KV} (h : l.length ≤ 999999999) : pRow (S l nx) T cs k = k (.p l.length nx cs.length 0 0) (S (l ++ [some (.cells nx false T 0 cs)]) (nx + 1)) := by
  unfold pRow
  rw [frcN_eq, lenR_eq, S_push h]
theorem vCells_i (kd : IntKind) (n : Int) (k : List AV → Res) : vCells (.i kd n) k = k [.i kd n] := rfl
theorem vCells_s (x : List Nat) (k : List AV → Res) : vCells (.s x) k = k [.s x] := rfl
theorem vCells_b (x : Bool) (k : List AV → Res) : vCells (.b x) k = k [.b x] := rfl
theorem vCells_agg (x : List AV) (k : List AV → Res) : vCells (.agg x) k = k x := rfl
theorem vCells_sl (kk n : Nat) (x : List AV) (k : List AV → Res) : vCells (.sl kk n x) k = k [.sl kk n x] := rfl
theorem vCells_gr (r st i n kk : Nat) (k : List AV → Res) : vCells (.gr r st i n kk) k = k [.gr r st i n kk] := rfl
theorem vCells_p (r st i n kk : Nat) (k : List AV → Res) : vCells (.p r st i n kk) k = k [.p r st i n kk] := rfl
theorem vCells_ns (k : List AV → Res) : vCells .ns k = k [.ns] := rfl
theorem vCells_sz (k : List AV → Res) : vCells .sz k = k [.sz] := rfl
theorem vCells_fn (f : Fn) (a b : List AV) (k : List AV → Res) : vCells (.fn f a b) k = k [.fn f a b] := rfl
theorem vCells_pe (cs : List AV) (kk i o : Nat) (k : List AV → Res) : vCells (.pe cs kk i o) k = k [.pe cs kk i o] := rfl
theorem pBox_S {l : List (Option Blk)} {nx T : Nat} {v : AV} {cs : List AV} {k : KV} (hv : v.cells = some cs) (h : l.length ≤ 999999999) : pBox (S l nx) T v k = k (.p l.length nx cs.length 0 0) (S (l ++ [some (.cells nx false T 0 cs)]) (nx + 1)) := by
  unfold pBox
  rw [vCells_eq, hv]
  exact pRow_S h
theorem loadK_t {cs : List AV} {n kk i o : Nat} {k : KP} (h1 : o + n ≤ kk) (h2 : (i + 1) * kk ≤ cs.length) : loadK true n cs kk i o k = k (.agg ((cs.drop (i * kk + o)).take n)) := by
  rw [loadK_eq]
  simp only [loadN, elemAt]
  rw [if_pos h2]
  simp only [Option.bind_some]
  have hl : o + n ≤ ((cs.drop (i * kk)).take kk).length := by
    rw [List.length_take, List.length_drop]
    have : (i + 1) * kk = i * kk + kk := by rw [Nat.add_mul]; simp
    omega
  rw [if_pos hl]
  simp only [Option.bind_some, packV, kont]
  rw [List.drop_take, List.take_take, List.drop_drop, show min n (kk - o) = n from by omega]
  rfl
theorem loadK_f {cs : List AV} {kk i o : Nat} {v : AV} {k : KP} (h1 : o + 1 ≤ kk) (h2 : (i + 1) * kk ≤ cs.length) (hv : cs[i * kk + o]? = some v) : loadK false 1 cs kk i o k = k v := by
  rw [loadK_eq]
  simp only [loadN, elemAt]
  rw [if_pos h2]
  simp only [Option.bind_some]
  have hl : o + 1 ≤ ((cs.drop (i * kk)).take kk).length := by
    rw [List.length_take, List.length_drop]
    have : (i + 1) * kk = i * kk + kk := by rw [Nat.add_mul]; simp
    omega
  rw [if_pos hl]
  simp only [Option.bind_some]
  rw [List.drop_take, List.take_take, List.drop_drop, show min 1 (kk - o) = 1 from by omega]
  have : (cs.drop (i * kk + o)).head? = some v := by rw [drop_head]; exact hv
  cases hd : cs.drop (i * kk + o) with
  | nil => rw [hd] at this; cases this
  | cons a t => rw [hd] at this; cases this; rfl
theorem pLoad_S {l : List (Option Blk)} {nx r st st' kk i o n T fz : Nat} {cs : List AV} {g : Bool} {k : KP} (h : l[r]? = some (some (.cells st' false T fz cs))) (hst : st' = st) : pLoad (S l nx) g n (.p r st kk i o) k = loadK g n cs kk i o k := by
  rw [pLoad_def]
  simp only
  rw [S_sAt h hst]
theorem pLoad_pe {s : ES} {kk i o n : Nat} {cs : List AV} {g : Bool} {k : KP} : pLoad s g n (.pe cs kk i o) k = loadK g n cs kk i o k := by
  rw [pLoad_def]
theorem pStore_S {l : List (Option Blk)} {nx r st st' kk i o n T : Nat} {old cs : List AV} {v : AV} {k : KV} (h : l[r]? = some (some (.cells st' false T 0 old))) (hst : st' = st) (hv : v.cells = some cs) (hn : cs.length = n)
    (ho : o + n ≤ kk) (hi : (i + 1) * kk ≤ old.length) (hl : l.length ≤ 999999999) :
    pStore (S l nx) n (.p r st kk i o) v k = k (.tup []) (S (l.set r (some (.cells st' false T 0 (old.take (i * kk + o) ++ (cs ++ old.drop (i * kk + o + cs.length)))))) nx) := by
  rw [pStore_def]
  simp only
  rw [S_sAt h hst]
  simp only [vCells_eq, hv, lenR_eq, hn]
  rw [show Nat.beq n n = true from by rw [beqN]; simp, show Nat.ble (Nat.add o n) kk = true from Nat.ble_eq_true_of_le ho, show decide (Nat.mul (Nat.succ i) kk ≤ old.length) = true from decide_eq_true hi,
    show Nat.ble 0 (Nat.succ (Nat.add (Nat.mul i kk) o)) = true from rfl]
  simp only [cond_true, overK_eq]
  rw [S_put ((List.getElem?_eq_some_iff.1 h).1) hl]
  rw [hn]
  rfl
theorem pNil_p {l : List (Option Blk)} {nx r st st' kk i o T fz : Nat} {cs : List AV} {k : KP} (h : l[r]? = some (some (.cells st' false T fz cs))) (hst : st' = st) : pNil (S l nx) (.p r st kk i o) k = k (.p r st kk i o) := by
  rw [pNil_def]
  simp only [sLive]
  rw [S_sAt h hst]; rfl
theorem pNil_pe {s : ES} {kk i o : Nat} {cs : List AV} {k : KP} : pNil s (.pe cs kk i o) k = k (.pe cs kk i o) := by rw [pNil_def]
theorem pFadr_p {l : List (Option Blk)} {nx r st st' kk i o T fz off : Nat} {cs : List AV} {k : KP} (h : l[r]? = some (some (.cells st' false T fz cs))) (hst : st' = st) : pFadr (S l nx) off (.p r st kk i o) k = k (.p r st kk i (o + off)) := by
  rw [pFadr_def]
  simp only [sLive, frcN_eq]
  rw [S_sAt h hst]; rfl
theorem pFadr_pe {s : ES} {kk i o off : Nat} {cs : List AV} {k : KP} : pFadr s off (.pe cs kk i o) k = k (.pe cs kk i (o + off)) := by
  rw [pFadr_def]; simp only [frcN_eq]; rfl
theorem pIadrS_sl {s : ES} {kk n m : Nat} {cs : List AV} {kd : IntKind} {z : Int} {k : KP} (hz : z = (m : Nat)) (h : m < n) : pIadrS s kk (.sl kk n cs) (.i kd z) k = k (.pe cs kk m 0) := by
  subst hz
  rw [pIadrS_def]
  show cnd (Nat.beq kk kk) (cnd (Nat.ble (Nat.succ m) n) (k (.pe cs kk m 0)) none) none = _
  rw [beqN, Nat.ble_eq_true_of_le (show Nat.succ m ≤ n from h)]; simp only [cnd_eq, decide_true, cond_true]
theorem pIadrS_gr {l : List (Option Blk)} {nx r st st' i0 T fz : Nat} {cs : List AV} {kk n m : Nat} {kd : IntKind} {z : Int} {k : KP} (hr : l[r]? = some (some (.cells st' false T fz cs))) (hst : st' = st) (hz : z = (m : Nat)) (h : m < n) :
    pIadrS (S l nx) kk (.gr r st i0 n kk) (.i kd z) k = k (.p r st kk (i0 + m) 0) := by
  subst hz
  rw [pIadrS_def]
  show cnd (Nat.beq kk kk) (cnd (Nat.ble (Nat.succ m) n) (sLive (S l nx) r st (frcN (Nat.add i0 m) fun i => k (.p r st kk i 0))) none) none = _
  rw [beqN, Nat.ble_eq_true_of_le (show Nat.succ m ≤ n from h)]; simp only [cnd_eq, decide_true, cond_true, sLive, frcN_eq]
  rw [S_sAt hr hst]; rfl
theorem pExt_t {l : List AV} {n : Nat} {v : AV} {k : KP} (h : l[n]? = some v) : pExt (.tup l) n k = k v := by
  rw [pExt_def]
  simp only [dropK_eq]
  have : (l.drop n).head? = some v := by rw [drop_head]; exact h
  cases hd : l.drop n with
  | nil => rw [hd] at this; cases this
  | cons a t => rw [hd] at this; cases this; rfl
theorem fillK_nil (z : List AV) (k : List AV → Res) : fillK z [] k = k z := rfl
theorem fillK_cons {z : List AV} {o n : Nat} {v : AV} {cs : List AV} {ps : List (Nat × Nat × AV)} {k : List AV → Res} (hv : v.cells = some cs) (hn : cs.length = n) (hz : o + n ≤ z.length) : fillK z ((o, n, v) :: ps) k = fillK (z.take o ++ (cs ++ z.drop (o + n))) ps k := by
  show (vCells v fun cs => cond (Nat.beq (lenR cs) n) (cond (Nat.ble (Nat.add o n) (lenR z)) (replK z o cs fun z => fillK z ps k) none) none) = _
  rw [vCells_eq, hv]
  simp only [lenR_eq, hn, replK_eq]
  rw [beqN, Nat.ble_eq_true_of_le (show Nat.add o n ≤ z.length from hz)]
  simp only [decide_true, cond_true, replaceAt, hn]
theorem pBuild_d (z : List AV) (ps : List (Nat × Nat × AV)) (k : KP) : pBuild z ps k = fillK z ps fun l => k (.agg l) := rfl
theorem pLit_S {l : List (Option Blk)} {nx T k0 n : Nat} {z : List AV} {ps : List (Nat × Nat × AV)} {k : KV} (h : l.length ≤ 999999999) :
    pLit (S l nx) T k0 n z ps k = fillK z ps fun cs => k (.gr l.length nx 0 n k0) (S (l ++ [some (.cells nx false T 0 cs)]) (nx + 1)) := by
  unfold pLit
  congr 1
  funext cs
  rw [S_push h]
end Hb
end

section
set_option linter.unusedVariables false
set_option linter.unusedSimpArgs false
set_option linter.constructorNameAsVariable false
set_option autoImplicit false
set_option linter.unusedVariables false
set_option linter.unusedSimpArgs false
set_option linter.constructorNameAsVariable false
namespace Hb
open Go
noncomputable def cloB (v : AV) : Bool :=
  AV.rec (motive_1 := fun _ => Bool) (motive_2 := fun _ => Bool) true (fun _ => true) (fun _ _ => true) (fun _ => true) (fun _ _ _ _ _ => false) (fun _ _ _ _ ih => ih) true (fun _ _ _ ih => ih) true true (fun _ _ _ _ _ => false) (fun _ _ => false) (fun _ _ _ ih => ih) true (fun _ _ => false)
    (fun _ _ _ ia ib => cond ia ib false) (fun _ _ => false) true (fun _ _ ih => ih) true (fun _ ih => ih) (fun _ ih => ih) true (fun _ _ ih il => cond ih il false) v
noncomputable def cloBL (l : List AV) : Bool :=
  AV.rec_1 (motive_1 := fun _ => Bool) (motive_2 := fun _ => Bool) true (fun _ => true) (fun _ _ => true) (fun _ => true) (fun _ _ _ _ _ => false) (fun _ _ _ _ ih => ih) true (fun _ _ _ ih => ih) true true (fun _ _ _ _ _ => false) (fun _ _ => false) (fun _ _ _ ih => ih) true (fun _ _ => false)
    (fun _ _ _ ia ib => cond ia ib false) (fun _ _ => false) true (fun _ _ ih => ih) true (fun _ ih => ih) (fun _ ih => ih) true (fun _ _ ih il => cond ih il false) l
mutual
theorem cloB_iff : ∀ (v : AV), cloB v = true ↔ Clo v
  | .u | .b _ | .i _ _ | .s _ | .np | .ns | .sz | .nm | .nf | .ni => by simp only [Clo, iff_true]; rfl
  | .p _ _ _ _ _ | .gr _ _ _ _ _ | .m _ _ | .it _ _ | .fy _ _ => by simp only [Clo, iff_false]; exact Bool.false_ne_true
  | .pe cs _ _ _ => by simp only [Clo]; exact cloBL_iff cs
  | .sl _ _ cs => by simp only [Clo]; exact cloBL_iff cs
  | .mi _ _ ks => by simp only [Clo]; exact cloBL_iff ks
  | .fn _ a b => by
    simp only [Clo]
    show cond (cloBL a) (cloBL b) false = true ↔ _
    rw [← cloBL_iff a, ← cloBL_iff b]
    cases cloBL a <;> simp
  | .ifc _ v => by simp only [Clo]; exact cloB_iff v
  | .agg l => by simp only [Clo]; exact cloBL_iff l
  | .tup l => by simp only [Clo]; exact cloBL_iff l
theorem cloBL_iff : ∀ (l : List AV), cloBL l = true ↔ CloL l
  | [] => by simp only [CloL, iff_true]; rfl
  | x :: xs => by
    simp only [CloL]
    show cond (cloB x) (cloBL xs) false = true ↔ _
    rw [← cloB_iff x, ← cloBL_iff xs]
    cases cloB x <;> simp
end
noncomputable def mapO (f : AV → Option AV) (l : List AV) : Option (List AV) :=
  List.rec (motive := fun _ => Option (List AV)) (some []) (fun a _ ih => match f a, ih with | some b, some t => some (b :: t) | _, _ => none) l
theorem mapO_cons (f : AV → Option AV) (a : AV) (l : List AV) : mapO f (a :: l) = (match f a, mapO f l with | some b, some t => some (b :: t) | _, _ => none) := rfl
noncomputable def atR (s : ES) (r st : Nat) : Option Blk :=
  ES.rec (motive := fun _ => Option Blk) (fun t n _ => cond (Nat.ble (Nat.succ r) n) (match getR t r with | some b => cond (Nat.beq (stR b) st) (some b) none | none => none) none) s
theorem atR_eq (s : ES) (r st : Nat) : atR s r st = s.at r st := by
  obtain ⟨t, n, x⟩ := s
  show cond (Nat.ble (Nat.succ r) n) (match getR t r with | some b => cond (Nat.beq (stR b) st) (some b) none | none => none) none = _
  rw [getR_eq]
  unfold ES.at
  cases Nat.ble (Nat.succ r) n with
  | false => rfl
  | true =>
    simp only [cond_true]
    cases t.get r with
    | none => rfl
    | some b => simp only [stR_eq]
noncomputable def inl1 (ih : AV → Option AV) (s : ES) (v : AV) : Option AV :=
  match v with
  | .gr r st i n k => (match atR s r st with
    | some (.cells _ false _ _ cs) => cond (Nat.ble (Nat.mul (Nat.add i n) k) (lenR cs)) (match mapO ih (takeR (dropR cs (Nat.mul i k)) (Nat.mul n k)) with | some l => some (.sl k n l) | none => none) none
    | some (.cells _ true _ _ _) => some .sz
    | _ => none)
  | .p r st k i o => (match atR s r st with
    | some (.cells _ false _ _ cs) => (match mapO ih cs with | some l => some (.pe l k i o) | none => none)
    | _ => none)
  | .tup l => (match mapO ih l with | some l => some (.tup l) | none => none)
  | .agg l => (match mapO ih l with | some l => some (.agg l) | none => none)
  | .ifc t v => (match ih v with | some v => some (.ifc t v) | none => none)
  | .fn f a b => (match mapO ih a, mapO ih b with | some a, some b => some (.fn f a b) | _, _ => none)
  | v => cond (cloB v) (some v) none
noncomputable def inlN (f : Nat) (s : ES) (v : AV) : Option AV := Nat.rec (motive := fun _ => AV → Option AV) (fun _ => none) (fun _ ih v => cond (cloB v) (some v) (inl1 ih s v)) f v
theorem inlN_s (f : Nat) (s : ES) (v : AV) : inlN (f + 1) s v = cond (cloB v) (some v) (inl1 (inlN f s) s v) := rfl
theorem inlN_clo {f : Nat} {s : ES} {v : AV} (h : Clo v) : inlN (f + 1) s v = some v := by rw [inlN_s, (cloB_iff v).2 h]; rfl
theorem mapO_clo {f : Nat} {s : ES} : ∀ {l : List AV}, CloL l → mapO (inlN (f + 1) s) l = some l
  | [], _ => rfl
  | x :: xs, h => by
    simp only [CloL] at h
    rw [mapO_cons, inlN_clo h.1, mapO_clo h.2]
theorem mapO_inl {f : Nat} {s : ES} (H : ∀ v v', inlN f s v = some v' → Inl Clo s.st.1 v v') : ∀ {l l' : List AV}, mapO (inlN f s) l = some l' → InlL Clo s.st.1 l l'
  | [], l', h => by
    have h : some [] = some l' := h
    cases h; exact .nil
  | x :: xs, l', h => by
    rw [mapO_cons] at h
    split at h
    · rename_i b t h1 h2
      cases h
      exact .cons _ _ _ _ (H _ _ h1) (mapO_inl H h2)
    · cases h
theorem inlN_inl {s : ES} : ∀ (f : Nat) {v v' : AV}, inlN f s v = some v' → Inl Clo s.st.1 v v'
  | 0, v, v', h => by cases h
  | f + 1, v, v', h => by
    have H : ∀ v v', inlN f s v = some v' → Inl Clo s.st.1 v v' := fun v v' h => inlN_inl f h
    rw [inlN_s] at h
    cases hc : cloB v with
    | true => rw [hc] at h; cases h; exact .clo _ ((cloB_iff v).1 hc)
    | false =>
      rw [hc] at h
      have h : inl1 (inlN f s) s v = some v' := h
      unfold inl1 at h
      split at h
      · rw [atR_eq, ES.at_eq] at h
        split at h
        · rename_i hat
          obtain ⟨h1, h⟩ := cond_some' h
          split at h
          · rename_i hm
            cases h
            rw [takeR_eq, dropR_eq] at hm
            refine .gr _ _ _ _ _ _ _ _ _ _ hat ?_ (mapO_inl H hm)
            have := Nat.le_of_ble_eq_true h1
            rw [lenR_eq] at this
            exact this
          · cases h
        · rename_i hat
          cases h
          exact .grv _ _ _ _ _ _ _ _ _ hat
        · cases h
      · rw [atR_eq, ES.at_eq] at h
        split at h
        · rename_i hat
          split at h
          · rename_i hm
            cases h
            exact .p _ _ _ _ _ _ _ _ _ _ hat (mapO_inl H hm)
          · cases h
        · cases h
      · split at h
        · rename_i hm; cases h; exact .tup _ _ (mapO_inl H hm)
        · cases h
      · split at h
        · rename_i hm; cases h; exact .agg _ _ (mapO_inl H hm)
        · cases h
      · split at h
        · rename_i hm; cases h; exact .ifc _ _ _ (H _ _ hm)
        · cases h
      · split at h
        · rename_i h1 h2; cases h; exact .fn _ _ _ _ _ (mapO_inl H h1) (mapO_inl H h2)
        · cases h
      · rw [hc] at h; cases h
noncomputable def flatOv (F : List AV → Option AV) : Fun := fun _ args s => match mapO (inlN 4 s) args with
  | some as => (match F as with
    | some v => some (.ret v s)
    | none => none)
  | none => none
noncomputable def cloOv (F : List AV → Option AV) : Fun := fun _ args s => cond (cloBL args) (match F args with
  | some v => some (.ret v s)
  | none => none) none
noncomputable def rowOv (F : List AV → Option (Nat × Nat × Nat × List AV)) : Fun := fun _ args s => match mapO (inlN 4 s) args with
  | some as => (match F as with
    | some (T, n, k, cs) => cond (Nat.beq n 0) (some (.ret .ns s)) (pPush s (fun x => .cells x false T 0 cs) fun r x s' => some (.ret (.gr r x 0 n k) s'))
    | none => none)
  | none => none
section
variable {P : Prg}
theorem InlL.refl {σ : Store} : ∀ {l : List AV}, CloL l → InlL Clo σ l l
  | [], _ => .nil
  | x :: xs, h => by simp only [CloL] at h; exact .cons _ _ _ _ (.clo _ h.1) (InlL.refl h.2)
theorem flatOv_ok (hG : GlobClo P) {g : FuncId} {b : Fun} {R : Rec} {F : List AV → Option AV} (hb : SOk P g b) (hR : RecOk P R)
    (h : ∀ as v, F as = some v → Tot (fun v0 s0 => ∃ v', Inl Fla s0.st.1 v0 v' ∧ v' = v) (b R as (S [] 0))) : SOk P g (flatOv F) := by
  intro R' _ args s a ha
  unfold flatOv at ha
  split at ha
  case h_2 => cases ha
  rename_i as has
  split at ha
  case h_2 => cases ha
  rename_i v hF
  cases ha
  obtain ⟨a0, ha0, hall⟩ := h as v hF
  have hcall := hb R hR as (S [] 0) a0 ha0
  rw [S_st] at hcall
  refine (ACall.pure (C := Clo) (D := Fla) (Φ := fun x => x = v) hG (mapO_inl (fun v v' h => inlN_inl 4 h) has) ⟨fun v h => h, .inl fun v h => h⟩ (hcall.mono fun v0 σ' ⟨s0, hl, hs⟩ => ?_)).mono fun x σ' ⟨h1, h2⟩ => ?_
  · obtain ⟨v', h1, h2⟩ := hall.leaf v0 s0 hl
    rw [← hs]
    exact ⟨v', h1, h2⟩
  · exact ⟨s, by rw [h1]; rfl, h2.symm⟩
theorem cloOv_ok (hG : GlobClo P) {g : FuncId} {b : Fun} {R : Rec} {F : List AV → Option AV} (hb : SOk P g b) (hR : RecOk P R)
    (h : ∀ as v, F as = some v → CloL as → Tot (fun v0 s0 => ∃ v', Inl Clo s0.st.1 v0 v' ∧ v' = v) (b R as (S [] 0))) : SOk P g (cloOv F) := by
  intro R' _ args s a ha
  unfold cloOv at ha
  obtain ⟨hc, ha⟩ := cond_some ha
  have hcl := (cloBL_iff args).1 hc
  clear hc
  split at ha
  case h_2 => cases ha
  rename_i v hF
  cases ha
  obtain ⟨a0, ha0, hall⟩ := h args v hF hcl
  have hcall := hb R hR args (S [] 0) a0 ha0
  rw [S_st] at hcall
  have hin : InlL Clo s.st.1 args args := InlL.refl hcl
  refine (ACall.pure (C := Clo) (D := Clo) (Φ := fun x => x = v) hG hin ⟨fun v h => h, .inr ⟨rfl, hcl, fun v h => h⟩⟩ (hcall.mono fun v0 σ' ⟨s0, hl, hs⟩ => ?_)).mono fun x σ' ⟨h1, h2⟩ => ?_
  · obtain ⟨v', h1, h2⟩ := hall.leaf v0 s0 hl
    rw [← hs]
    exact ⟨v', h1, h2⟩
  · exact ⟨s, by rw [h1]; rfl, h2.symm⟩
def IsRow (D : AV → Prop) (T n k : Nat) (cs' : List AV) (v : AV) (s : ES) : Prop :=
  ∃ r st st' cs, v = .gr r st 0 n k ∧ s.st.1.at r st = some (.cells st' false T 0 cs) ∧ InlL D (s.st.1.set r none) cs cs'
theorem rowOv_ok (hG : GlobClo P) {g : FuncId} {b : Fun} {R : Rec} {F : List AV → Option (Nat × Nat × Nat × List AV)} (hb : SOk P g b) (hR : RecOk P R)
    (h : ∀ as T n k cs, F as = some (T, n, k, cs) → (n = 0 → Tot (fun v _ => v = .ns) (b R as (S [] 0))) ∧ (n ≠ 0 → Tot (IsRow Fla T n k cs) (b R as (S [] 0)))) : SOk P g (rowOv F) := by
  intro R' _ args s a ha
  unfold rowOv at ha
  split at ha
  case h_2 => cases ha
  rename_i as has
  split at ha
  case h_2 => cases ha
  rename_i T n k cs hF
  obtain ⟨hn0, hn1⟩ := h as T n k cs hF
  rw [beqN] at ha
  by_cases hn : n = 0
  · rw [decide_eq_true hn] at ha
    cases ha
    obtain ⟨a0, ha0, hall⟩ := hn0 hn
    have hcall := hb R hR as (S [] 0) a0 ha0
    rw [S_st] at hcall
    refine (ACall.pure (C := Clo) (D := Fla) (Φ := fun x => x = .ns) hG (mapO_inl (fun v v' h => inlN_inl 4 h) has) ⟨fun v h => h, .inl fun v h => h⟩ (hcall.mono fun v0 σ' ⟨s0, hl, hs⟩ => ?_)).mono fun x σ' ⟨h1, h2⟩ => ?_
    · have := hall.leaf v0 s0 hl
      exact ⟨.ns, by rw [this]; exact .clo _ (by simp only [Fla]), rfl⟩
    · exact ⟨s, by rw [h1]; rfl, h2.symm⟩
  rw [decide_eq_false hn, cond_false] at ha
  obtain ⟨s1, hs1, ha⟩ := pPush_some ha
  cases ha
  obtain ⟨a0, ha0, hall⟩ := hn1 hn
  have hcall := hb R hR as (S [] 0) a0 ha0
  rw [S_st] at hcall
  refine (ACall.row (C := Clo) (D := Fla) (Φ := fun T' n' k' cs' => T' = T ∧ n' = n ∧ k' = k ∧ cs' = cs) hG (mapO_inl (fun v v' h => inlN_inl 4 h) has) ⟨fun v h => h, .inl fun v h => h⟩ (hcall.mono fun v0 σ' ⟨s0, hl, hs⟩ => ?_)).mono fun x σ' ⟨T', n', k', cs', ⟨e1, e2, e3, e4⟩, h1, h2⟩ => ?_
  · obtain ⟨r, st, st', cs0, rfl, h2, h3⟩ := hall.leaf v0 s0 hl
    rw [← hs]
    exact ⟨r, st, st', T, n, k, cs0, cs, rfl, h2, h3, rfl, rfl, rfl, rfl⟩
  · subst e1 e2 e3 e4
    refine ⟨s1, ?_, by rw [hs1, h2]⟩
    rw [h1]; rfl
end
theorem flatOv_S {F : List AV → Option AV} {R : Rec} {args as : List AV} {v : AV} {s : ES} (h1 : mapO (inlN 4 s) args = some as) (h2 : F as = some v) : flatOv F R args s = some (.ret v s) := by
  unfold flatOv; rw [h1]; simp only [h2]
theorem flatOv_c {F : List AV → Option AV} {R : Rec} {args : List AV} {v : AV} {s : ES} (h1 : CloL args) (h2 : F args = some v) : flatOv F R args s = some (.ret v s) := flatOv_S (mapO_clo h1) h2
theorem cloOv_c {F : List AV → Option AV} {R : Rec} {args : List AV} {v : AV} {s : ES} (h1 : CloL args) (h2 : F args = some v) : cloOv F R args s = some (.ret v s) := by
  unfold cloOv; rw [(cloBL_iff args).2 h1]; simp only [cond_true, h2]
theorem rowOv_S {F : List AV → Option (Nat × Nat × Nat × List AV)} {R : Rec} {args as : List AV} {T n k : Nat} {cs : List AV} {l : List (Option Blk)} {nx : Nat} (h1 : mapO (inlN 4 (S l nx)) args = some as) (h2 : F as = some (T, n, k, cs)) (hn : n ≠ 0) (hl : l.length ≤ 999999999) :
    rowOv F R args (S l nx) = some (.ret (.gr l.length nx 0 n k) (S (l ++ [some (.cells nx false T 0 cs)]) (nx + 1))) := by
  unfold rowOv; rw [h1]; simp only [h2]; rw [beqN, decide_eq_false hn, cond_false, S_push hl]
theorem rowOv_0 {F : List AV → Option (Nat × Nat × Nat × List AV)} {R : Rec} {args as : List AV} {T k : Nat} {cs : List AV} {s : ES} (h1 : mapO (inlN 4 s) args = some as) (h2 : F as = some (T, 0, k, cs)) :
    rowOv F R args s = some (.ret .ns s) := by
  unfold rowOv; rw [h1]; simp only [h2]; rfl
end Hb
end

section
set_option linter.unusedVariables false
set_option linter.unusedSimpArgs false
set_option linter.constructorNameAsVariable false
set_option autoImplicit false
set_option linter.unusedVariables false
set_option linter.unusedSimpArgs false
set_option linter.constructorNameAsVariable false
namespace Hb
open Go
structure Ids where
  f : Nat → Nat
  t : Nat → Nat
  x : Nat → XC
  g : Nat → List AV
theorem get_last {α : Type} (l : List α) (x : α) : (l ++ [x])[l.length]? = some x := by simp
theorem AV.cells_i (k : IntKind) (n : Int) : (AV.i k n).cells = some [.i k n] := rfl
theorem AV.cells_s (l : List Nat) : (AV.s l).cells = some [.s l] := rfl
theorem AV.cells_b (x : Bool) : (AV.b x).cells = some [.b x] := rfl
theorem AV.cells_agg (l : List AV) : (AV.agg l).cells = some l := rfl
theorem AV.cells_sl (k n : Nat) (l : List AV) : (AV.sl k n l).cells = some [.sl k n l] := rfl
theorem kont_v (v : AV) (k : KP) : kont (some v) k = k v := rfl
theorem loadK_fm {cs : List AV} {kk i o : Nat} {k : KP} (h1 : o + 1 ≤ kk) (h2 : (i + 1) * kk ≤ cs.length) : loadK false 1 cs kk i o k = kont cs[i * kk + o]? k := by
  cases hv : cs[i * kk + o]? with
  | none =>
    exfalso
    rw [List.getElem?_eq_none_iff] at hv
    have : (i + 1) * kk = i * kk + kk := by rw [Nat.add_mul]; simp
    omega
  | some v => exact loadK_f h1 h2 hv
theorem pLoad_Sf {l : List (Option Blk)} {nx r st st' kk i o T fz : Nat} {cs : List AV} {k : KP} (h : l[r]? = some (some (.cells st' false T fz cs))) (hst : st' = st) (h1 : o + 1 ≤ kk) (h2 : (i + 1) * kk ≤ cs.length) :
    pLoad (S l nx) false 1 (.p r st kk i o) k = kont cs[i * kk + o]? k := by rw [pLoad_S h hst, loadK_fm h1 h2]
theorem pLoad_St {l : List (Option Blk)} {nx r st st' kk i o n T fz : Nat} {cs : List AV} {k : KP} (h : l[r]? = some (some (.cells st' false T fz cs))) (hst : st' = st) (h1 : o + n ≤ kk) (h2 : (i + 1) * kk ≤ cs.length) :
    pLoad (S l nx) true n (.p r st kk i o) k = k (.agg ((cs.drop (i * kk + o)).take n)) := by rw [pLoad_S h hst, loadK_t h1 h2]
end Hb
end

section
set_option linter.unusedVariables false
set_option linter.unusedSimpArgs false
set_option linter.constructorNameAsVariable false
set_option autoImplicit false
set_option linter.unusedVariables false
set_option linter.unusedSimpArgs false
set_option linter.constructorNameAsVariable false
namespace Hb
open Go
structure Enc (α : Type) where
  k : Nat
  enc : α → List AV
  dec : List AV → Option α
  pos : 0 < k
  len : ∀ a, (enc a).length = k
  ok : ∀ a, dec (enc a) = some a
  inv : ∀ cs a, dec cs = some a → cs = enc a
  clo : ∀ a, CloL (enc a)
variable {α : Type}
def Enc.decL (E : Enc α) : Nat → List AV → Option (List α)
  | 0, cs => if cs = [] then some [] else none
  | n + 1, cs => match E.dec (cs.take E.k), E.decL n (cs.drop E.k) with
    | some a, some l => some (a :: l)
    | _, _ => none
def Enc.encL (E : Enc α) (l : List α) : List AV := l.flatMap E.enc
def Enc.decS (E : Enc α) : AV → Option (List α)
  | .ns => some []
  | .sz => some []
  | .sl k n cs => if k = E.k then E.decL n cs else none
  | _ => none
def Enc.sl (E : Enc α) (l : List α) : AV := .sl E.k l.length (E.encL l)
theorem Enc.encL_len (E : Enc α) : ∀ (l : List α), (E.encL l).length = l.length * E.k
  | [] => by simp [Enc.encL]
  | a :: l => by
    have := E.encL_len l
    simp only [Enc.encL] at this ⊢
    rw [List.flatMap_cons, List.length_append, E.len, this, List.length_cons, Nat.add_mul]; omega
theorem Enc.decL_enc (E : Enc α) : ∀ (l : List α), E.decL l.length (E.encL l) = some l
  | [] => rfl
  | a :: l => by
    have h := E.decL_enc l
    simp only [List.length_cons, Enc.decL]
    have h1 : (E.encL (a :: l)).take E.k = E.enc a := by
      simp only [Enc.encL, List.flatMap_cons]
      rw [← E.len a, List.take_left']
      rfl
    have h2 : (E.encL (a :: l)).drop E.k = E.encL l := by
      simp only [Enc.encL, List.flatMap_cons]
      rw [← E.len a, List.drop_left']
      rfl
    rw [h1, h2, E.ok, h]
theorem Enc.decL_inv (E : Enc α) : ∀ {n : Nat} {cs : List AV} {l : List α}, E.decL n cs = some l → n = l.length ∧ cs = E.encL l
  | 0, cs, l, h => by
    simp only [Enc.decL] at h
    split at h
    · cases h; exact ⟨rfl, by rw [‹cs = []›]; rfl⟩
    · cases h
  | n + 1, cs, l, h => by
    simp only [Enc.decL] at h
    split at h
    · rename_i a l' h1 h2
      cases h
      obtain ⟨e1, e2⟩ := E.decL_inv h2
      refine ⟨by simp [e1], ?_⟩
      have e3 := E.inv _ _ h1
      rw [← List.take_append_drop E.k cs, e3, e2]
      simp [Enc.encL]
    · cases h
theorem Enc.decS_sl (E : Enc α) (l : List α) : E.decS (E.sl l) = some l := by
  simp only [Enc.decS, Enc.sl, if_true, E.decL_enc]
theorem Enc.decS_inv (E : Enc α) {v : AV} {l : List α} (h : E.decS v = some l) : (l = [] ∧ (v = .ns ∨ v = .sz)) ∨ v = E.sl l := by
  unfold Enc.decS at h
  split at h
  · cases h; exact .inl ⟨rfl, .inl rfl⟩
  · cases h; exact .inl ⟨rfl, .inr rfl⟩
  · split at h
    · rename_i hk
      obtain ⟨h1, h2⟩ := E.decL_inv h
      right
      rw [Enc.sl, h1, h2, hk]
    · cases h
  · cases h
theorem CloL_append : ∀ {l m : List AV}, CloL l → CloL m → CloL (l ++ m)
  | [], m, _, h => h
  | x :: l, m, h, k => by simp only [CloL] at h; rw [List.cons_append]; simp only [CloL]; exact ⟨h.1, CloL_append h.2 k⟩
theorem Enc.cloL (E : Enc α) : ∀ (l : List α), CloL (E.encL l)
  | [] => by simp only [Enc.encL, List.flatMap_nil, CloL]
  | a :: l => by
    have h := E.cloL l
    simp only [Enc.encL, List.flatMap_cons] at h ⊢
    exact CloL_append (E.clo a) h
theorem Enc.clo_sl (E : Enc α) (l : List α) : Clo (E.sl l) := by simp only [Enc.sl, Clo]; exact E.cloL l
theorem Enc.clo_of (E : Enc α) {v : AV} {l : List α} (h : E.decS v = some l) : Clo v := by
  rcases E.decS_inv h with ⟨_, rfl | rfl⟩ | rfl
  · simp only [Clo]
  · simp only [Clo]
  · exact E.clo_sl l
theorem Enc.drop_i (E : Enc α) : ∀ (l : List α) (i : Nat) (a : α), l[i]? = some a → ((E.encL l).drop (i * E.k)).take E.k = E.enc a
  | [], i, a, h => by simp at h
  | b :: l, 0, a, h => by
    simp only [List.getElem?_cons_zero, Option.some.injEq] at h
    subst h
    simp only [Enc.encL, List.flatMap_cons, Nat.zero_mul, List.drop_zero]
    rw [← E.len b, List.take_left']
    rfl
  | b :: l, i + 1, a, h => by
    simp only [List.getElem?_cons_succ] at h
    have := E.drop_i l i a h
    simp only [Enc.encL, List.flatMap_cons] at this ⊢
    rw [show (i + 1) * E.k = E.k + i * E.k from by rw [Nat.add_mul]; omega, ← List.drop_drop]
    rw [show (E.enc b ++ List.flatMap E.enc l).drop E.k = List.flatMap E.enc l from by rw [← E.len b, List.drop_left']; rfl]
    exact this
theorem Enc.pLen_v (E : Enc α) {v : AV} {l : List α} (h : E.decS v = some l) (k : KP) : pLen false v k = k (.i .i64 (l.length : Nat)) := by
  rcases E.decS_inv h with ⟨rfl, rfl | rfl⟩ | rfl
  · exact pLen_ns k
  · exact pLen_sz k
  · exact pLen_sl _ _ _ k
theorem Enc.iadr (E : Enc α) {v : AV} {l : List α} (h : E.decS v = some l) {s : ES} {i : Nat} {z : Int} {kd : IntKind} {kk : Nat} {k : KP} (hkk : kk = E.k) (hz : z = (i : Nat)) (hi : i < l.length) : pIadrS s kk v (.i kd z) k = k (.pe (E.encL l) kk i 0) := by
  rcases E.decS_inv h with ⟨rfl, _⟩ | rfl
  · simp at hi
  · subst hkk; exact pIadrS_sl hz hi
theorem Enc.load_t (E : Enc α) {l : List α} {s : ES} {i kk : Nat} {a : α} {k : KP} (hkk : kk = E.k) (hi : l[i]? = some a) : pLoad s true kk (.pe (E.encL l) kk i 0) k = k (.agg (E.enc a)) := by
  subst hkk
  have hlt : i < l.length := (List.getElem?_eq_some_iff.1 hi).1
  rw [pLoad_pe, loadK_t (by omega) (by rw [E.encL_len]; exact Nat.mul_le_mul_right _ hlt), Nat.add_zero, E.drop_i l i a hi]
theorem Enc.get_i (E : Enc α) {l : List α} {i o : Nat} {a : α} (hi : l[i]? = some a) (ho : o < E.k) : (E.encL l)[i * E.k + o]? = (E.enc a)[o]? := by
  rw [← E.drop_i l i a hi, List.getElem?_take, if_pos ho, List.getElem?_drop]
theorem Enc.load_f (E : Enc α) {l : List α} {s : ES} {i o kk : Nat} {a : α} {k : KP} (hkk : kk = E.k) (hi : l[i]? = some a) (ho : o < E.k) : pLoad s false 1 (.pe (E.encL l) kk i o) k = kont (E.enc a)[o]? k := by
  subst hkk
  have hlt : i < l.length := (List.getElem?_eq_some_iff.1 hi).1
  rw [pLoad_pe, loadK_fm (by omega) (by rw [E.encL_len]; exact Nat.mul_le_mul_right _ hlt), E.get_i hi ho]
theorem eCallV_fn (Rg : FuncId → List AV → ES → Res) (Rb : Nat → XC → (Nat → AV) → ES → Res) (g : Nat) (first cap args : List AV) (s : ES) (k : KV) : eCallV Rg Rb (.fn (.func g) first cap) args s k = callK (Rg g (first ++ args ++ cap) s) k := rfl
def idxP (p : α → Bool) : List α → Nat → Int
  | [], _ => -1
  | x :: l, i => if p x then (i : Nat) else idxP p l (i + 1)
theorem idxP_nonneg (p : α → Bool) : ∀ (l : List α) (i : Nat), decide (0 ≤ idxP p l i) = l.any p
  | [], i => rfl
  | x :: l, i => by
    unfold idxP
    cases hp : p x with
    | true => simp [hp]
    | false =>
      simp only [Bool.false_eq_true, if_false]
      rw [idxP_nonneg p l (i + 1)]
      simp [hp]
def encI (kd : IntKind) : Enc Int where
  k := 1
  enc a := [.i kd a]
  dec cs := match cs with
    | [.i kd' a] => if kd' = kd then some a else none
    | _ => none
  pos := by decide
  len _ := rfl
  ok a := by simp
  inv cs a h := by
    split at h
    · split at h
      · cases h; subst_vars; rfl
      · cases h
    · cases h
  clo a := by simp only [CloL, Clo, and_self]
def encRange : Enc (Int × Int) where
  k := 2
  enc a := [.i .i32 a.1, .i .i32 a.2]
  dec cs := match cs with
    | [.i .i32 a, .i .i32 b] => some (a, b)
    | _ => none
  pos := by decide
  len _ := rfl
  ok a := rfl
  inv cs a h := by
    split at h
    · cases h; rfl
    · cases h
  clo a := by simp only [CloL, Clo, and_self]
def encB : Enc Bool where
  k := 1
  enc a := [.b a]
  dec cs := match cs with
    | [.b a] => some a
    | _ => none
  pos := by decide
  len _ := rfl
  ok a := rfl
  inv cs a h := by
    split at h
    · cases h; rfl
    · cases h
  clo a := by simp only [CloL, Clo, and_self]
def encS : Enc (List Nat) where
  k := 1
  enc a := [.s a]
  dec cs := match cs with
    | [.s a] => some a
    | _ => none
  pos := by decide
  len _ := rfl
  ok a := rfl
  inv cs a h := by
    split at h
    · cases h; rfl
    · cases h
  clo a := by simp only [CloL, Clo, and_self]
end Hb
end
