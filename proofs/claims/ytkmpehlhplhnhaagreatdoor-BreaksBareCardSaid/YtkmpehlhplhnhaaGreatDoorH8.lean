/- A layer for programs of small data: values, stores, code, and an evaluator of code that the kernel runs; part 8. -/
import Derived.Test.YtkmpehlhplhnhaaGreatDoorH7

section
set_option linter.unusedVariables false
set_option linter.unusedSimpArgs false
set_option linter.constructorNameAsVariable false
set_option autoImplicit false
set_option linter.unusedSimpArgs false
set_option linter.unusedVariables false
set_option linter.constructorNameAsVariable false
namespace Hb
open Go
noncomputable def pPush (s : ES) (b : Nat → Blk) (k : Nat → Nat → ES → Res) : Res :=
  ES.rec (motive := fun _ => Res) (fun t n x => cnd (Nat.ble n 999999999) (frcN (Nat.succ n) fun n' => frcN (Nat.succ x) fun x' => TR.setK t n (some (b x)) fun t' => k n x ⟨t', n', x'⟩) none) s
noncomputable def pPut (s : ES) (r : Nat) (b : Option Blk) (k : ES → Res) : Res :=
  ES.rec (motive := fun _ => Res) (fun t n x => cnd (Nat.ble r 999999999) (TR.setK t r b fun t' => k ⟨t', n, x⟩) none) s
noncomputable def pPut1 (s : ES) (r : Nat) (b : Nat → Blk) (k : Nat → ES → Res) : Res :=
  ES.rec (motive := fun _ => Res) (fun t n x => cnd (Nat.ble r 999999999) (frcN (Nat.succ x) fun x' => TR.setK t r (some (b x)) fun t' => k x ⟨t', n, x'⟩) none) s
theorem pPush_some {s : ES} {b : Nat → Blk} {k : Nat → Nat → ES → Res} {a : Ans} (h : pPush s b k = some a) : ∃ s', s'.st = (s.st.1 ++ [some (b s.st.2)], s.st.2 + 1) ∧ k s.st.1.length s.st.2 s' = some a := by
  obtain ⟨t, n, x⟩ := s
  have h : cond (Nat.ble n 999999999) (frcN (Nat.succ n) fun n' => frcN (Nat.succ x) fun x' => TR.setK t n (some (b x)) fun t' => k n x ⟨t', n', x'⟩) none = some a := by rw [← cnd_eq]; exact h
  simp only [frcN_eq, TR.setK_eq] at h
  cases hc : Nat.ble n 999999999 with
  | false => rw [hc] at h; cases h
  | true =>
    rw [hc] at h
    have := Nat.le_of_ble_eq_true hc
    refine ⟨_, ES.push_st ⟨t, n, x⟩ (b x) (by show n < _; omega), ?_⟩
    rw [ES.len]
    exact h
theorem pPut_some {s : ES} {r : Nat} {b : Option Blk} {k : ES → Res} {a : Ans} (h : pPut s r b k = some a) : ∃ s', s'.st = (s.st.1.set r b, s.st.2) ∧ k s' = some a := by
  obtain ⟨t, n, x⟩ := s
  have h : cond (Nat.ble r 999999999) (TR.setK t r b fun t' => k ⟨t', n, x⟩) none = some a := by rw [← cnd_eq]; exact h
  simp only [TR.setK_eq] at h
  cases hc : Nat.ble r 999999999 with
  | false => rw [hc] at h; cases h
  | true =>
    rw [hc] at h
    have := Nat.le_of_ble_eq_true hc
    exact ⟨_, ES.put_st ⟨t, n, x⟩ r b (by omega), h⟩
theorem pPut1_some {s : ES} {r : Nat} {b : Nat → Blk} {k : Nat → ES → Res} {a : Ans} (h : pPut1 s r b k = some a) : ∃ s', s'.st = (s.st.1.set r (some (b s.st.2)), s.st.2 + 1) ∧ k s.st.2 s' = some a := by
  obtain ⟨t, n, x⟩ := s
  have h : cond (Nat.ble r 999999999) (frcN (Nat.succ x) fun x' => TR.setK t r (some (b x)) fun t' => k x ⟨t', n, x'⟩) none = some a := by rw [← cnd_eq]; exact h
  simp only [frcN_eq, TR.setK_eq] at h
  cases hc : Nat.ble r 999999999 with
  | false => rw [hc] at h; cases h
  | true =>
    rw [hc] at h
    have := Nat.le_of_ble_eq_true hc
    exact ⟨_, ES.put1_st ⟨t, n, x⟩ r (some (b x)) (by omega), h⟩
theorem cond_some {b : Bool} {A : Res} {a : Ans} (h : cond b A none = some a) : b = true ∧ A = some a := by
  cases b with
  | false => cases h
  | true => exact ⟨rfl, h⟩
theorem vCells_some {v : AV} {k : List AV → Res} {a : Ans} (h : vCells v k = some a) : ∃ cs, v.cells = some cs ∧ k cs = some a := by
  rw [vCells_eq] at h
  cases hv : v.cells with
  | none => rw [hv] at h; cases h
  | some cs => rw [hv] at h; exact ⟨cs, rfl, h⟩
theorem sAt_some {s : ES} {r st : Nat} {k : Blk → Res} {a : Ans} (h : sAt s r st k = some a) : ∃ b, s.st.1.at r st = some b ∧ k b = some a := by
  rw [sAt_def] at h
  rw [← ES.at_eq]
  cases hb : s.at r st with
  | none => rw [hb] at h; cases h
  | some b => rw [hb] at h; exact ⟨b, rfl, h⟩
noncomputable def pRow (s : ES) (T : Nat) (cs : List AV) (k : KV) : Res := frcN (lenR cs) fun m => pPush s (fun x => .cells x false T 0 cs) fun r x s' => k (.p r x m 0 0) s'
noncomputable def pBox (s : ES) (T : Nat) (v : AV) (k : KV) : Res := vCells v fun cs => pRow s T cs k
noncomputable def pLit (s : ES) (T k0 n : Nat) (z : List AV) (ps : List (Nat × Nat × AV)) (k : KV) : Res :=
  fillK z ps fun cs => pPush s (fun x => .cells x false T 0 cs) fun r x s' => k (.gr r x 0 n k0) s'
noncomputable def overK (cs : List AV) (o : Nat) (old : List AV) (k : List AV → Res) : Res :=
  Nat.rec (motive := fun _ => List AV → (List AV → Res) → Res)
    (List.rec (motive := fun _ => List AV → (List AV → Res) → Res) (fun l k => k l) (fun c _ ih l k => List.rec (motive := fun _ => Res) (ih [] fun t => k (c :: t)) (fun _ t _ => ih t fun t => k (c :: t)) l) cs)
    (fun _ ih l k => List.rec (motive := fun _ => Res) (ih [] k) (fun a t _ => ih t fun t => k (a :: t)) l) o old k
theorem overK_zero : ∀ (cs l : List AV) (k : List AV → Res), overK cs 0 l k = k (cs ++ l.drop cs.length)
  | [], l, k => rfl
  | c :: cs, [], k => by
    have : overK (c :: cs) 0 [] k = overK cs 0 [] fun t => k (c :: t) := rfl
    rw [this, overK_zero cs]; simp
  | c :: cs, a :: l, k => by
    have : overK (c :: cs) 0 (a :: l) k = overK cs 0 l fun t => k (c :: t) := rfl
    rw [this, overK_zero cs]; simp
theorem overK_eq (cs : List AV) : ∀ (o : Nat) (l : List AV) (k : List AV → Res), overK cs o l k = k (l.take o ++ (cs ++ l.drop (o + cs.length)))
  | 0, l, k => by rw [overK_zero]; simp
  | o + 1, [], k => by
    have : overK cs (o + 1) [] k = overK cs o [] k := rfl
    rw [this, overK_eq cs o]; simp
  | o + 1, a :: l, k => by
    have : overK cs (o + 1) (a :: l) k = overK cs o l fun t => k (a :: t) := rfl
    rw [this, overK_eq cs o]
    simp [show o + 1 + cs.length = o + cs.length + 1 from by omega]
noncomputable def pStore (s : ES) (n : Nat) (p v : AV) (k : KV) : Res :=
  elP1 p fun r st k0 i o => sAt s r st fun b => elC b fun st' T fz old => vCells v fun cs =>
      cnd (Nat.beq (lenR cs) n) (cnd (Nat.ble (Nat.add o n) k0) (cnd (atL old (Nat.mul (Nat.succ i) k0)) (cnd (Nat.ble fz (Nat.succ (Nat.add (Nat.mul i k0) o)))
        (overK cs (Nat.add (Nat.mul i k0) o) old fun new => pPut s r (some (.cells st' false T fz new)) fun s' => k (.tup []) s') none) none) none) none
theorem pStore_def (s : ES) (n : Nat) (p v : AV) (k : KV) : pStore s n p v k = (match p with
  | .p r st k0 i o => sAt s r st fun b => (match b with
    | .cells st' false T fz old => vCells v fun cs =>
      cond (Nat.beq (lenR cs) n) (cond (Nat.ble (Nat.add o n) k0) (cond (decide (Nat.mul (Nat.succ i) k0 ≤ old.length)) (cond (Nat.ble fz (Nat.succ (Nat.add (Nat.mul i k0) o)))
        (overK cs (Nat.add (Nat.mul i k0) o) old fun new => pPut s r (some (.cells st' false T fz new)) fun s' => k (.tup []) s') none) none) none) none
    | _ => none)
  | _ => none) := by
  cases p <;> try rfl
  rename_i r st k0 i o
  have : pStore s n (.p r st k0 i o) v k = (sAt s r st fun b => elC b fun st' T fz old => vCells v fun cs =>
      cnd (Nat.beq (lenR cs) n) (cnd (Nat.ble (Nat.add o n) k0) (cnd (atL old (Nat.mul (Nat.succ i) k0)) (cnd (Nat.ble fz (Nat.succ (Nat.add (Nat.mul i k0) o)))
        (overK cs (Nat.add (Nat.mul i k0) o) old fun new => pPut s r (some (.cells st' false T fz new)) fun s' => k (.tup []) s') none) none) none) none) := rfl
  rw [this]
  simp only [elC_def, cnd_eq, atL_eq]
  congr 1
noncomputable def pMk (s : ES) (T k0 : Nat) (z : List AV) (l c : AV) (k : KV) : Res :=
  match l with
  | .i .i64 l => (match c with
    | .i .i64 c => if 0 ≤ l ∧ l ≤ c ∧ c ≤ 1048576 then frcLA ((List.range (c.toNat * k0)).map fun j => (z[j % z.length]?).getD .u) fun cs => frcN l.toNat fun l =>
        pPush s (fun x => .cells x false T 0 cs) fun r x s' => k (.gr r x 0 l k0) s' else none
    | _ => none)
  | _ => none
noncomputable def bytesK (l : List Nat) (k : List AV → Res) : Res :=
  List.rec (motive := fun _ => (List AV → Res) → Res) (fun k => k []) (fun (b : Nat) _ ih k => ih fun t => k (.i .u8 (.ofNat b) :: t)) l k
theorem bytesK_eq : ∀ (l : List Nat) (k : List AV → Res), bytesK l k = k (l.map fun (b : Nat) => .i .u8 b)
  | [], k => rfl
  | b :: l, k => by
    have : bytesK (b :: l) k = bytesK l fun t => k (.i .u8 (.ofNat b) :: t) := rfl
    rw [this, bytesK_eq l]; rfl
noncomputable def pS2b (s : ES) (T : Nat) (v : AV) (k : KV) : Res :=
  match v with
  | .s l => bytesK l fun cs => frcN (lenR l) fun n => pPush s (fun x => .cells x false T 1 cs) fun r x s' => k (.gr r x 0 n 1) s'
  | _ => none
noncomputable def cellsK (s : ES) (k0 : Nat) (v : AV) (k : Nat → List AV → Res) : Res :=
  match v with
  | .sl k' n cs => cond (Nat.beq k' k0) (k n cs) none
  | .ns => k 0 []
  | .sz => k 0 []
  | .gr r st i n k' => cond (Nat.beq k' k0) (sAt s r st fun b => (match b with
      | .cells _ true _ _ _ => k 0 []
      | .cells _ false _ _ cs => cond (Nat.ble (Nat.add (Nat.mul i k0) (Nat.mul n k0)) (lenR cs)) (dropK cs (Nat.mul i k0) fun d => takeK d (Nat.mul n k0) fun l => k n l) none
      | _ => none)) none
  | .s l => cond (Nat.beq k0 1) (bytesK l fun cs => frcN (lenR l) fun n => k n cs) none
  | _ => none
theorem cellsK_some {s : ES} {k0 : Nat} {v : AV} {k : Nat → List AV → Res} {a : Ans} (h : cellsK s k0 v k = some a) : ∃ n l, cellsOfSlice s.st.1 k0 v = some (n, l) ∧ k n l = some a := by
  unfold cellsK at h
  unfold cellsOfSlice
  cases v <;> try (cases h; done)
  case sl k' n cs =>
    obtain ⟨h1, h2⟩ := cond_some h
    exact ⟨n, cs, by rw [Nat.eq_of_beq_eq_true h1]; simp, h2⟩
  case ns => exact ⟨0, [], rfl, h⟩
  case sz => exact ⟨0, [], rfl, h⟩
  case s l =>
    obtain ⟨h1, h2⟩ := cond_some h
    have := Nat.eq_of_beq_eq_true h1
    subst this
    rw [bytesK_eq, frcN_eq, lenR_eq] at h2
    exact ⟨_, _, if_pos rfl, h2⟩
  case gr r st i n k' =>
    obtain ⟨h1, h2⟩ := cond_some h
    have := Nat.eq_of_beq_eq_true h1
    subst this
    obtain ⟨b, hb, h3⟩ := sAt_some h2
    simp only [if_true, hb]
    cases b <;> try (cases h3; done)
    rename_i st' virt T fz cs
    cases virt with
    | true => exact ⟨0, [], rfl, h3⟩
    | false =>
      obtain ⟨h4, h5⟩ := cond_some h3
      have h4 : i * k' + n * k' ≤ cs.length := by
        have := Nat.le_of_ble_eq_true h4
        rw [lenR_eq] at this
        exact this
      simp only [dropK_eq, takeK_eq] at h5
      exact ⟨n, _, by simp only [h4, if_true]; rfl, h5⟩
noncomputable def cnl (b : Bool) (x y : List AV) : List AV := Bool.rec (motive := fun _ => List AV) y x b
theorem cnl_eq (l : List AV) (n : Nat) : cnl (Nat.beq n (lenR l)) l (takeR l n) = l.take n := by
  rw [lenR_eq, takeR_eq, beqN]
  by_cases h : n = l.length
  · subst h; simp [cnl]
  · simp [h, cnl]
noncomputable def pApp (s : ES) (T k0 : Nat) (x : AV) (m : Nat) (new : List AV) (k : KV) : Res :=
  cond (Nat.ble m 1048576) (match x with
  | .ns => pPush s (fun x => .cells x (Nat.beq m 0) T 0 new) fun r x s' => k (.gr r x 0 m k0) s'
  | .sz => pPush s (fun x => .cells x (Nat.beq m 0) T 0 new) fun r x s' => k (.gr r x 0 m k0) s'
  | .sl k' n cs => cond (Nat.beq k' k0) (cond (Nat.beq m 0) (k (.sl k' n cs) s) none) none
  | .gr r st i n k' => cond (Nat.beq k' k0) (cond (Nat.ble n 1048576) (sAt s r st fun b => (match b with
      | .cells _ true _ _ _ => cond (Nat.beq m 0) (k (.gr r st i n k') s) (pPut1 s r (fun x => .cells x false T 0 new) fun x s' => k (.gr r x 0 m k0) s')
      | .cells _ false T' fz old => cond (Nat.beq m 0) (k (.gr r st i n k') s)
          (cond (Nat.beq T' T) (cond (Nat.beq i 0)
            (cond (Nat.ble (Nat.mul n k0) (lenR old)) (cond (Nat.ble fz (Nat.succ (Nat.mul n k0))) (appK (cnl (Nat.beq (Nat.mul n k0) (lenR old)) old (takeR old (Nat.mul n k0))) new fun all => frcN (Nat.add n m) fun nm =>
              pPut1 s r (fun x => .cells x false T fz all) fun x s' => k (.gr r x 0 nm k0) s') none) none)
            (cond (Nat.ble (Nat.add (Nat.mul i k0) (Nat.mul n k0)) (lenR old)) (cond (Nat.ble fz 1) (appK (takeR (dropR old (Nat.mul i k0)) (Nat.mul n k0)) new fun all => frcN (Nat.add n m) fun nm =>
              pPut1 s r (fun x => .cells x false T 1 all) fun x s' => k (.gr r x 0 nm k0) s') none) none)) none)
      | _ => none)) none) none
  | _ => none) none
theorem pApp_some {s : ES} {T k0 : Nat} {x : AV} {m : Nat} {new : List AV} {k : KV} {a : Ans} (h : pApp s T k0 x m new k = some a) :
    ∃ v σ', xappend s.st.1 T k0 x m new s.st.2 = some (v, σ') ∧ ∃ s', s'.st = σ' ∧ k v s' = some a := by
  unfold pApp at h
  unfold xappend
  obtain ⟨hm, h⟩ := cond_some h
  have hm : ¬ 1048576 < m := by have := Nat.le_of_ble_eq_true hm; omega
  rw [if_neg hm]
  cases x <;> try (cases h; done)
  case ns =>
    obtain ⟨s', h1, h2⟩ := pPush_some h
    simp only [beqN] at h1
    exact ⟨_, _, rfl, s', h1, h2⟩
  case sz =>
    obtain ⟨s', h1, h2⟩ := pPush_some h
    simp only [beqN] at h1
    exact ⟨_, _, rfl, s', h1, h2⟩
  case sl k' n cs _ =>
    simp only at h ⊢
    obtain ⟨h1, h⟩ := cond_some h
    obtain ⟨h2, h⟩ := cond_some h
    have h1 := Nat.eq_of_beq_eq_true h1
    have h2 := Nat.eq_of_beq_eq_true h2
    rw [if_pos ⟨h1, h2⟩]
    exact ⟨_, _, rfl, s, rfl, h⟩
  case gr r st i n k' _ =>
    simp only at h ⊢
    obtain ⟨h1, h⟩ := cond_some h
    obtain ⟨h3, h⟩ := cond_some h
    have h1 := Nat.eq_of_beq_eq_true h1
    have h3 := Nat.le_of_ble_eq_true h3
    rw [if_pos ⟨h1, h3⟩]
    obtain ⟨b, hb, h⟩ := sAt_some h
    rw [hb]
    cases b <;> try (cases h; done)
    rename_i st' virt T' fz old
    cases virt with
    | true =>
      simp only at h ⊢
      cases h0 : Nat.beq m 0 with
      | true =>
        rw [h0] at h
        rw [if_pos (Nat.eq_of_beq_eq_true h0)]
        exact ⟨_, _, rfl, s, rfl, h⟩
      | false =>
        rw [h0] at h
        rw [if_neg (fun e => by rw [e] at h0; cases h0)]
        simp only [cond_false] at h
        obtain ⟨s', q1, q2⟩ := pPut1_some h
        exact ⟨_, _, rfl, s', q1, q2⟩
    | false =>
      simp only at h ⊢
      cases h0 : Nat.beq m 0 with
      | true =>
        rw [h0] at h
        rw [if_pos (Nat.eq_of_beq_eq_true h0)]
        exact ⟨_, _, rfl, s, rfl, h⟩
      | false =>
        rw [h0] at h
        rw [if_neg (fun e => by rw [e] at h0; cases h0)]
        simp only [cond_false] at h
        obtain ⟨g1, h⟩ := cond_some h
        have g1 := Nat.eq_of_beq_eq_true g1
        cases hi : Nat.beq i 0 with
        | true =>
          rw [hi] at h
          have hi := Nat.eq_of_beq_eq_true hi
          subst hi
          simp only [cond_true] at h
          obtain ⟨g2, h⟩ := cond_some h
          obtain ⟨g3, h⟩ := cond_some h
          have g2 : n * k0 ≤ old.length := by have := Nat.le_of_ble_eq_true g2; rw [lenR_eq] at this; exact this
          have g3 : fz ≤ n * k0 + 1 := Nat.le_of_ble_eq_true g3
          rw [if_pos ⟨g1, by rw [Nat.zero_mul, Nat.zero_add]; exact g2, by rw [Nat.zero_mul, Nat.zero_add]; exact g3, .inl rfl⟩]
          simp only [cnl_eq, appK_eq, frcN_eq] at h
          obtain ⟨s', q1, q2⟩ := pPut1_some h
          simp only [Nat.zero_mul, List.drop_zero, if_true]
          exact ⟨_, _, rfl, s', q1, q2⟩
        | false =>
          rw [hi] at h
          have hi : i ≠ 0 := fun e => by rw [e] at hi; cases hi
          simp only [cond_false] at h
          obtain ⟨g2, h⟩ := cond_some h
          obtain ⟨g3, h⟩ := cond_some h
          have g2 : i * k0 + n * k0 ≤ old.length := by have := Nat.le_of_ble_eq_true g2; rw [lenR_eq] at this; exact this
          have g3 : fz ≤ 1 := Nat.le_of_ble_eq_true g3
          rw [if_pos ⟨g1, g2, by omega, .inr g3⟩]
          simp only [appK_eq, frcN_eq, takeR_eq, dropR_eq] at h
          obtain ⟨s', q1, q2⟩ := pPut1_some h
          simp only [if_neg hi]
          exact ⟨_, _, rfl, s', q1, q2⟩
noncomputable def pAppz (s : ES) (T k0 : Nat) (z : List AV) (x y : AV) (k : KV) : Res :=
  match y with
  | .i .i64 (.ofNat m) => frcLA ((List.range (m * k0)).map fun j => (z[j % z.length]?).getD .u) fun new => pApp s T k0 x m new k
  | _ => none
noncomputable def pAppend (s : ES) (T k0 : Nat) (x y : AV) (k : KV) : Res := cellsK s k0 y fun m new => pApp s T k0 x m new k
noncomputable def bytesSK (l : List AV) (k : List Nat → Res) : Res :=
  List.rec (motive := fun _ => (List Nat → Res) → Res) (fun k => k []) (fun x _ ih k => match x with
    | .i .u8 (.ofNat n) => cond (Nat.ble n 255) (ih fun t => k (n :: t)) none
    | _ => none) l k
theorem bytesSK_some {a : Ans} : ∀ {l : List AV} {k : List Nat → Res}, bytesSK l k = some a → ∃ bl, bytesS l = some bl ∧ k bl = some a
  | [], k, h => ⟨[], rfl, h⟩
  | x :: l, k, h => by
    obtain ⟨n, rfl, h⟩ : ∃ n : Nat, x = .i .u8 (.ofNat n) ∧ cond (Nat.ble n 255) (bytesSK l fun t => k (n :: t)) none = some a := by
      cases x <;> try (cases h; done)
      rename_i kd n
      cases kd <;> try (cases h; done)
      cases n with
      | ofNat n => exact ⟨n, rfl, h⟩
      | negSucc n => cases h
    · obtain ⟨h1, h2⟩ := cond_some h
      have h1 : n ≤ 255 := Nat.le_of_ble_eq_true h1
      obtain ⟨bl, h3, h4⟩ := bytesSK_some h2
      exact ⟨n :: bl, by simp only [bytesS]; rw [if_pos (by omega), h3]; rfl, h4⟩
noncomputable def pUstr (s : ES) (e : Nat) (p v : AV) (k : KV) : Res :=
  match v with
  | .i .i64 (.ofNat m) => (match p with
    | .np => cond (Nat.beq m 0) (k (.s []) s) none
    | .p r st kk i o => sAt s r st fun b => (match b with
      | .cells st' false T fz cs => cond (Nat.beq T e) (cond (!Nat.beq fz 1) (cond (Nat.beq kk 1) (cond (Nat.beq i 0) (cond (Nat.beq o 0) (cond (Nat.ble 1 m) (cond (Nat.ble m (lenR cs)) (cond (Nat.ble m 1048576)
          (takeK cs m fun l => bytesSK l fun bl => frcN (cond (Nat.ble fz (Nat.succ m)) (Nat.succ m) fz) fun fz' => pPut s r (some (.cells st' false T fz' cs)) fun s' => k (.s bl) s') none) none) none) none) none) none) none) none
      | _ => none)
    | _ => none)
  | _ => none
theorem pUstr_some {s : ES} {e : Nat} {p v : AV} {k : KV} {a : Ans} (h : pUstr s e p v k = some a) :
    ∃ m l σ', v = .i .i64 (.ofNat m) ∧ ustrAt s.st.1 e p m = some (l, σ') ∧ ∃ s', s'.st = (σ', s.st.2) ∧ k (.s l) s' = some a := by
  unfold pUstr at h
  split at h
  · rename_i m
    split at h
    · obtain ⟨h1, h2⟩ := cond_some h
      have h1 := Nat.eq_of_beq_eq_true h1
      subst h1
      exact ⟨_, [], s.st.1, rfl, rfl, s, rfl, h2⟩
    · rename_i r st kk i o
      obtain ⟨b, hb, h⟩ := sAt_some h
      split at h
      · rename_i st' T fz cs
        obtain ⟨g1, h⟩ := cond_some h
        obtain ⟨g2, h⟩ := cond_some h
        obtain ⟨g3, h⟩ := cond_some h
        obtain ⟨g4, h⟩ := cond_some h
        obtain ⟨g5, h⟩ := cond_some h
        obtain ⟨g6, h⟩ := cond_some h
        obtain ⟨g7, h⟩ := cond_some h
        obtain ⟨g8, h⟩ := cond_some h
        have g1 := Nat.eq_of_beq_eq_true g1
        have g2 : fz ≠ 1 := by intro e; subst e; cases g2
        have g3 := Nat.eq_of_beq_eq_true g3
        have g4 := Nat.eq_of_beq_eq_true g4
        have g5 := Nat.eq_of_beq_eq_true g5
        have g6 : 0 < m := Nat.le_of_ble_eq_true g6
        have g7 : m ≤ cs.length := by have := Nat.le_of_ble_eq_true g7; rw [lenR_eq] at this; exact this
        have g8 : m ≤ 1048576 := Nat.le_of_ble_eq_true g8
        rw [takeK_eq] at h
        obtain ⟨bl, k1, k2⟩ := bytesSK_some h
        rw [frcN_eq] at k2
        obtain ⟨s', q1, q2⟩ := pPut_some k2
        have hf : cond (Nat.ble fz (Nat.succ m)) (Nat.succ m) fz = max fz (m + 1) := by
          cases hc : Nat.ble fz (Nat.succ m) with
          | true =>
            have : fz ≤ m + 1 := Nat.le_of_ble_eq_true hc
            show m + 1 = _
            omega
          | false =>
            have : ¬ fz ≤ m + 1 := by
              intro hh
              have := Nat.ble_eq_true_of_le hh
              rw [show Nat.ble fz (m + 1) = false from hc] at this
              cases this
            show fz = _
            omega
        rw [hf] at q1
        refine ⟨m, bl, _, rfl, ?_, s', q1, q2⟩
        simp only [ustrAt, hb]
        rw [if_pos ⟨g1, g2, g3, g4, g5, g6, g7, g8⟩, k1]
        rfl
      · cases h
    · cases h
  · cases h
noncomputable def callA (a : Ans) (k : KV) : Res := Ans.rec (motive := fun _ => Res) (fun v s => k v s) (fun _ _ _ => none) (fun _ _ ia ib => both ia ib) a
noncomputable def callK (r : Res) (k : KV) : Res :=
  match r with
  | some a => callA a k
  | none => none
noncomputable def exA (a : Ans) (k : XExit → (Nat → AV) → ES → Res) : Res := Ans.rec (motive := fun _ => Res) (fun _ _ => none) (fun e f s => k e f s) (fun _ _ ia ib => both ia ib) a
noncomputable def exK (r : Res) (k : XExit → (Nat → AV) → ES → Res) : Res :=
  match r with
  | some a => exA a k
  | none => none
def putAllB (ρ : Nat → AV) (ps : List Nat) (as : List AV) : Nat → AV :=
  match ps with
  | [] => ρ
  | p :: ps => match as with
    | [] => ρ
    | a :: as => putAllB (updB ρ p a) ps as
theorem putAllB_eq : ∀ (ps : List Nat) (as : List AV) (ρ : Nat → AV), putAllB ρ ps as = putAll ρ ps as
  | [], as, ρ => by cases as <;> rfl
  | p :: ps, [], ρ => rfl
  | p :: ps, a :: as, ρ => by simp only [putAllB, putAll]; rw [updB_eq, putAllB_eq ps as]
noncomputable def eRoundEnd (r st : Nat) (e : XExit) (s : ES) (k : KV) : Res :=
  sAt s r st fun b => (match b with
  | .loop _ _ _ N ρl ps xa xb dr ds => (match e with
    | .normal => pPut s r (some (.loop st .ready none N ρl ps xa xb dr ds)) fun s' => k (.b true) s'
    | e => pPut s r (some (.loop st .done (some e) N ρl ps xa xb dr ds)) fun s' => k (.b false) s')
  | _ => none)
noncomputable def eRoundMid (Rb : Nat → XC → (Nat → AV) → ES → Res) (r st N0 : Nat) (xb0 : XC) (e : XExit) (f : Nat → AV) (s : ES) (k : KV) : Res :=
  match e with
  | .normal => sAt s r st fun b => (match b with
    | .loop _ .ready pe N ρl ps xa xb dr ds => pPut s r (some (.loop st .busy pe N ρl ps xa xb dr ds)) fun s' => exK (Rb N0 xb0 f s') fun e _ s => eRoundEnd r st e s k
    | _ => none)
  | _ => none
noncomputable def eRound (Rb : Nat → XC → (Nat → AV) → ES → Res) (r st : Nat) (args : List AV) (s : ES) (k : KV) : Res :=
  sAt s r st fun b => (match b with
  | .loop _ .ready _ N ρl ps xa xb _ _ => cond (Nat.beq (lenR args) (lenR ps)) (exK (Rb N xa (putAllB ρl ps args) s) fun e f s => eRoundMid Rb r st N xb e f s k) none
  | _ => none)
noncomputable def eCallV (Rg : FuncId → List AV → ES → Res) (Rb : Nat → XC → (Nat → AV) → ES → Res) (g : AV) (args : List AV) (s : ES) (k : KV) : Res :=
  match g with
  | .fn (.func g) first cap => callK (Rg g (first ++ args ++ cap) s) k
  | .fy r st => eRound Rb r st args s k
  | _ => none
noncomputable def pRng (s : ES) (v : AV) (k : KV) : Res :=
  match v with
  | .s l => pPush s (fun x => .iter x l 0) fun r x s' => k (.it r x) s'
  | _ => none
noncomputable def pNext (s : ES) (v : AV) (k : KV) : Res :=
  match v with
  | .it r st => sAt s r st fun b => (match b with
    | .iter st' l pos => if pos < l.length then
        frcN (pos + (Utf8.decode (bs l) pos).2) fun pos' => frcN (Utf8.decode (bs l) pos).1 fun c =>
        pPut s r (some (.iter st' l pos')) fun s' => k (.tup [.b true, .i .i64 (.ofNat pos), .i .i32 (.ofNat c)]) s' else k (.tup [.b false]) s
    | _ => none)
  | _ => none
noncomputable def mputK (key v : AV) (ck : Nat) (es : List (AV × AV × Nat)) (k : List (AV × AV × Nat) → Bool → Res) : Res :=
  List.rec (motive := fun _ => (List (AV × AV × Nat) → Bool → Res) → Res) (fun k => k [(key, v, ck)] true) (fun e t ih k => match e with
    | (k', v', b) => keyEqK key k' fun tt => cond tt (k ((key, v, b) :: t) false) (ih fun l n => k ((k', v', b) :: l) n)) es k
theorem mputK_eq (key v : AV) (ck : Nat) : ∀ (es : List (AV × AV × Nat)) (k : List (AV × AV × Nat) → Bool → Res), mputK key v ck es k = (match mputL key v ck es with
    | some p => k p.1 p.2
    | none => none)
  | [], k => rfl
  | (k', v', b) :: es, k => by
    have : mputK key v ck ((k', v', b) :: es) k = keyEqK key k' fun tt => cond tt (k ((key, v, b) :: es) false) (mputK key v ck es fun l n => k ((k', v', b) :: l) n) := rfl
    rw [this, keyEqK_eq, mputK_eq key v ck es]
    simp only [mputL]
    cases keyEq key k' with
    | none => rfl
    | some t =>
      cases t with
      | true => rfl
      | false =>
        simp only [cond_false, Option.bind_some]
        cases mputL key v ck es <;> rfl
noncomputable def mdelK (key : AV) (es : List (AV × AV × Nat)) (k : List (AV × AV × Nat) → Res) : Res :=
  List.rec (motive := fun _ => (List (AV × AV × Nat) → Res) → Res) (fun k => k []) (fun e t ih k => match e with
    | (k', v', b) => keyEqK key k' fun tt => cond tt (k t) (ih fun l => k ((k', v', b) :: l))) es k
theorem mdelK_eq (key : AV) : ∀ (es : List (AV × AV × Nat)) (k : List (AV × AV × Nat) → Res), mdelK key es k = (match mdelL key es with
    | some l => k l
    | none => none)
  | [], k => rfl
  | (k', v', b) :: es, k => by
    have : mdelK key ((k', v', b) :: es) k = keyEqK key k' fun tt => cond tt (k es) (mdelK key es fun l => k ((k', v', b) :: l)) := rfl
    rw [this, keyEqK_eq, mdelK_eq key es]
    simp only [mdelL]
    cases keyEq key k' with
    | none => rfl
    | some t =>
      cases t with
      | true => rfl
      | false =>
        simp only [cond_false, Option.bind_some]
        cases mdelL key es <;> rfl
noncomputable def pMkm (s : ES) (k : KV) : Res := pPush s (fun x => .map x 0 []) fun r x s' => k (.m r x) s'
noncomputable def pMset (s : ES) (str : Bool) (x i v : AV) (k : KV) : Res :=
  cond (keyIs str i) (match x with
    | .m r st => sAt s r st fun b => (match b with
      | .map st' ck es => mputK i v ck es fun l n => frcN (cond n (Nat.succ ck) ck) fun ck' => pPut s r (some (.map st' ck' l)) fun s' => k (.tup []) s'
      | _ => none)
    | _ => none) none
noncomputable def pMdel (s : ES) (str : Bool) (x i : AV) (k : KV) : Res :=
  cond (keyIs str i) (match x with
    | .nm => k (.tup []) s
    | .m r st => sAt s r st fun b => (match b with
      | .map st' ck es => mdelK i es fun l => pPut s r (some (.map st' ck l)) fun s' => k (.tup []) s'
      | _ => none)
    | _ => none) none
noncomputable def pClr (s : ES) (kk : Nat) (z : List AV) (x : AV) (k : KV) : Res :=
  match x with
  | .ns => k (.tup []) s
  | .sz => k (.tup []) s
  | .gr r st i n k' => cond (Nat.beq n 0) (k (.tup []) s) (sAt s r st fun b => (match b with
    | .cells st' false T fz old => cond (Nat.beq k' kk) (cond (Nat.ble (Nat.add (Nat.mul i kk) (Nat.mul n kk)) (lenR old)) (cond (Nat.ble fz (Nat.succ (Nat.mul i kk)))
        (frcLA ((List.range (n * kk)).map fun j => (z[j % z.length]?).getD .u) fun zs => replK old (Nat.mul i kk) zs fun new => pPut s r (some (.cells st' false T fz new)) fun s' => k (.tup []) s') none) none) none
    | _ => none))
  | _ => none
noncomputable def pCpy (s : ES) (kk : Nat) (x y : AV) (k : KV) : Res :=
  cellsK s kk y fun m new => (match x with
    | .ns => cond (Nat.beq m 0) (k (.i .i64 (.ofNat 0)) s) none
    | .gr r st i n k' => cond (Nat.beq m 0) (k (.i .i64 (.ofNat 0)) s) (cond (Nat.beq k' kk) (cond (Nat.ble m n) (sAt s r st fun b => (match b with
      | .cells st' false T fz old => cond (Nat.ble (Nat.add (Nat.mul i kk) (Nat.mul n kk)) (lenR old)) (cond (Nat.ble fz (Nat.succ (Nat.mul i kk)))
          (replK old (Nat.mul i kk) new fun new => pPut s r (some (.cells st' false T fz new)) fun s' => k (.i .i64 (.ofNat m)) s') none) none
      | _ => none)) none) none)
    | _ => none)
theorem pCpy_some {s : ES} {kk : Nat} {x y : AV} {k : KV} {a : Ans} (h : pCpy s kk x y k = some a) : ∃ n σ', copyS s.st.1 kk x y = some (n, σ') ∧ ∃ s', s'.st = (σ', s.st.2) ∧ k (.i .i64 (n : Nat)) s' = some a := by
  unfold pCpy at h
  unfold copyS
  obtain ⟨m, new, h1, h⟩ := cellsK_some h
  rw [h1]
  simp only at h ⊢
  cases x <;> try (cases h; done)
  case ns =>
    simp only at h ⊢
    obtain ⟨h2, h⟩ := cond_some h
    have h2 := Nat.eq_of_beq_eq_true h2
    rw [if_pos h2]
    exact ⟨_, _, rfl, s, rfl, h⟩
  case gr r st i n k' _ =>
    simp only at h ⊢
    cases h0 : Nat.beq m 0 with
    | true =>
      rw [h0] at h
      rw [if_pos (Nat.eq_of_beq_eq_true h0)]
      exact ⟨_, _, rfl, s, rfl, h⟩
    | false =>
      rw [h0] at h
      rw [if_neg (fun e => by rw [e] at h0; cases h0)]
      simp only [cond_false] at h
      obtain ⟨g1, h⟩ := cond_some h
      obtain ⟨g2, h⟩ := cond_some h
      have g1 := Nat.eq_of_beq_eq_true g1
      have g2 := Nat.le_of_ble_eq_true g2
      rw [if_pos ⟨g1, g2⟩]
      obtain ⟨b, hb, h⟩ := sAt_some h
      simp only [hb]
      split at h
      · rename_i st' T fz old
        obtain ⟨g3, h⟩ := cond_some h
        obtain ⟨g4, h⟩ := cond_some h
        have g3 : i * kk + n * kk ≤ old.length := by have := Nat.le_of_ble_eq_true g3; rw [lenR_eq] at this; exact this
        have g4 : fz ≤ i * kk + 1 := Nat.le_of_ble_eq_true g4
        simp only [replK_eq] at h
        obtain ⟨s', h3, h4⟩ := pPut_some h
        refine ⟨m, _, ?_, s', h3, h4⟩
        simp only [g3, g4, and_self, if_true]
        rfl
      · cases h
noncomputable def pMks (s : ES) (v : AV) (k : KV) : Res :=
  match v with
  | .gr r st i n kk => sAt s r st fun b => (match b with
    | .cells st' false T fz cs => cond (Nat.beq fz 0) (cond (Nat.beq kk 1) (cond (Nat.beq n 0) none (pPut s r (some (.cells st' false T 1 cs)) fun s' => k (.gr r st i n kk) s')) none) none
    | _ => none)
  | _ => none
noncomputable def pRngm (s : ES) (v : AV) (k : KV) : Res :=
  match v with
  | .m r st => sAt s r st fun b => (match b with
    | .map _ ck _ => pPush s (fun x => .miter x r st ck ck []) fun r x s' => k (.it r x) s'
    | _ => none)
  | .mi ck bs ks => pPush s (fun x => .miti x ck bs ks []) fun r x s' => k (.it r x) s'
  | _ => none
noncomputable def pNextm (s : ES) (v : AV) (k : KV) : Res :=
  match v with
  | .it r st => sAt s r st fun b => (match b with
    | .miter st' rm sm since last seen => sAt s rm sm fun b2 => (match b2 with
      | .map _ ck es => (match mcands seen since last es with
        | some l => allK l fun o => match o with
          | none => k (.tup [.b false]) s
          | some (kk, v, b) => frcLN (seen ++ [b]) fun seen' => pPut s r (some (.miter st' rm sm since ck seen')) fun s' => k (.tup [.b true, kk, v]) s'
        | none => none)
      | _ => none)
    | .miti st' ck bs ks seen => (match mcands seen ck ck (mkEs bs ks) with
      | some l => allK l fun o => match o with
        | none => k (.tup [.b false]) s
        | some (kk, _, b) => frcLN (seen ++ [b]) fun seen' => pPut s r (some (.miti st' ck bs ks seen')) fun s' => k (.tup [.b true, kk, .u]) s'
      | none => none)
    | _ => none)
  | _ => none
theorem pMset_some {s : ES} {str : Bool} {x i v : AV} {k : KV} {a : Ans} (h : pMset s str x i v k = some a) : ∃ σ', msetS s.st.1 str x i v = some σ' ∧ ∃ s', s'.st = (σ', s.st.2) ∧ k (.tup []) s' = some a := by
  unfold pMset at h
  unfold msetS
  obtain ⟨h0, h⟩ := cond_some h
  rw [if_pos h0]
  split at h
  · rename_i r st
    obtain ⟨b, hb, h⟩ := sAt_some h
    simp only [hb]
    split at h
    · rename_i st' ck es
      rw [mputK_eq] at h
      cases hp : mputL i v ck es with
      | none => rw [hp] at h; cases h
      | some p =>
        rw [hp] at h
        simp only [frcN_eq] at h
        obtain ⟨s', h1, h2⟩ := pPut_some h
        exact ⟨_, by simp only [hp, Option.map_some], s', h1, h2⟩
    · cases h
  · cases h
theorem pMdel_some {s : ES} {str : Bool} {x i : AV} {k : KV} {a : Ans} (h : pMdel s str x i k = some a) : ∃ σ', mdelS s.st.1 str x i = some σ' ∧ ∃ s', s'.st = (σ', s.st.2) ∧ k (.tup []) s' = some a := by
  unfold pMdel at h
  unfold mdelS
  obtain ⟨h0, h⟩ := cond_some h
  rw [if_pos h0]
  split at h
  · exact ⟨_, rfl, s, rfl, h⟩
  · rename_i r st
    obtain ⟨b, hb, h⟩ := sAt_some h
    simp only [hb]
    split at h
    · rename_i st' ck es
      rw [mdelK_eq] at h
      cases hp : mdelL i es with
      | none => rw [hp] at h; cases h
      | some p =>
        rw [hp] at h
        obtain ⟨s', h1, h2⟩ := pPut_some h
        exact ⟨_, by simp only [hp, Option.map_some], s', h1, h2⟩
    · cases h
  · cases h
theorem pMks_some {s : ES} {v : AV} {k : KV} {a : Ans} (h : pMks s v k = some a) : ∃ σ', mksS s.st.1 v = some σ' ∧ ∃ s', s'.st = (σ', s.st.2) ∧ k v s' = some a := by
  unfold pMks at h
  unfold mksS
  split at h
  · rename_i r st i n kk
    obtain ⟨b, hb, h⟩ := sAt_some h
    simp only [hb]
    split at h
    · rename_i st' T fz cs
      obtain ⟨g1, h⟩ := cond_some h
      obtain ⟨g2, h⟩ := cond_some h
      have g1 := Nat.eq_of_beq_eq_true g1
      have g2 := Nat.eq_of_beq_eq_true g2
      cases hn : Nat.beq n 0 with
      | true => rw [hn] at h; cases h
      | false =>
        rw [hn] at h
        have hn' : n ≠ 0 := by intro e; rw [e] at hn; cases hn
        obtain ⟨s', h1, h2⟩ := pPut_some h
        refine ⟨_, ?_, s', h1, h2⟩
        show (if fz = 0 ∧ kk = 1 ∧ n ≠ 0 then some _ else none) = some _
        rw [if_pos ⟨g1, g2, hn'⟩]
    · cases h
  · cases h
theorem pClr_some {s : ES} {kk : Nat} {z : List AV} {x : AV} {k : KV} {a : Ans} (h : pClr s kk z x k = some a) : ∃ σ', clrS s.st.1 kk z x = some σ' ∧ ∃ s', s'.st = (σ', s.st.2) ∧ k (.tup []) s' = some a := by
  unfold pClr at h
  unfold clrS
  split at h
  · exact ⟨_, rfl, s, rfl, h⟩
  · exact ⟨_, rfl, s, rfl, h⟩
  · rename_i r st i n k'
    cases h0 : Nat.beq n 0 with
    | true =>
      rw [h0] at h
      have := Nat.eq_of_beq_eq_true h0
      simp only [this, if_true]
      exact ⟨_, rfl, s, rfl, h⟩
    | false =>
      rw [h0] at h
      have hn : ¬ n = 0 := by intro e; rw [e] at h0; cases h0
      simp only [cond_false] at h
      simp only [hn, if_false]
      obtain ⟨b, hb, h⟩ := sAt_some h
      simp only [hb]
      split at h
      · rename_i st' T fz old
        obtain ⟨g1, h⟩ := cond_some h
        obtain ⟨g2, h⟩ := cond_some h
        obtain ⟨g3, h⟩ := cond_some h
        have g1 := Nat.eq_of_beq_eq_true g1
        have g2 : i * kk + n * kk ≤ old.length := by have := Nat.le_of_ble_eq_true g2; rw [lenR_eq] at this; exact this
        have g3 : fz ≤ i * kk + 1 := Nat.le_of_ble_eq_true g3
        simp only [frcLA_eq, replK_eq] at h
        obtain ⟨s', h1, h2⟩ := pPut_some h
        refine ⟨_, ?_, s', h1, h2⟩
        simp only [g1, g2, g3, and_self, if_true]
        rfl
      · cases h
  · cases h
noncomputable abbrev eCall (R : Rec) (g : XO) (f : Nat → AV) (args : List AV) (s : ES) (k : KV) : Res :=
  match g with
  | .f n => callK (R.f n args s) k
  | g => eCallV R.g R.b (g.ev f) args s k
noncomputable abbrev estep (R : Rec) (x : XOp) (f : Nat → AV) (s : ES) (k : KV) : Res :=
  match x with
  | .alloc T z => pRow s T z k
  | .box T _ x => pBox s T (x.ev f) k
  | .lit T k0 n z ps => pLit s T k0 n z (evP f ps) k
  | .store n a x => pStore s n (a.ev f) (x.ev f) k
  | .mksl T k0 z l c => pMk s T k0 z (l.ev f) (c.ev f) k
  | .conv (.s2b T) x => pS2b s T (x.ev f) k
  | .bi (.append T k0 z) [x, y] => pAppend s T k0 (x.ev f) (y.ev f) k
  | .bi (.appz T k0 z) [x, y] => pAppz s T k0 z (x.ev f) (y.ev f) k
  | .bi (.ustr e) [x, y] => pUstr s e (x.ev f) (y.ev f) k
  | .call g args => eCall R g f (evL f args) s k
  | .rng x => pRng s (x.ev f) k
  | .next x => pNext s (x.ev f) k
  | .mkm => pMkm s k
  | .mset str x i v => pMset s str (x.ev f) (i.ev f) (v.ev f) k
  | .mdel str x i => pMdel s str (x.ev f) (i.ev f) k
  | .clr kk z x => pClr s kk z (x.ev f) k
  | .cpy kk x y => pCpy s kk (x.ev f) (y.ev f) k
  | .mks x => pMks s (x.ev f) k
  | .rngm x => pRngm s (x.ev f) k
  | .nextm x => pNextm s (x.ev f) k
  | x => pop s f x fun v => k v s
def RetIn (a : Ans) (v : AV) (σ : St) : Prop := ∃ s, Leaf (.ret v s) a ∧ s.st = σ
def ExIn (a : Ans) (e : XExit) (ρ : Env) (σ : St) : Prop := ∃ f s, Leaf (.ex e f s) a ∧ ρ.d = [] ∧ (∀ t, f t = ρ.f t ∨ f t = .u) ∧ s.st = σ
theorem RetIn.sub {a b : Ans} (h : Sub a b) {v : AV} {σ : St} (k : RetIn a v σ) : RetIn b v σ := let ⟨s, h1, h2⟩ := k; ⟨s, h _ h1, h2⟩
theorem ExIn.sub {a b : Ans} (h : Sub a b) {e : XExit} {ρ : Env} {σ : St} (k : ExIn a e ρ σ) : ExIn b e ρ σ := let ⟨f, s, h1, h2⟩ := k; ⟨f, s, h _ h1, h2⟩
structure RecOk (P : Prg) (R : Rec) : Prop where
  f : ∀ g args s a, R.f g args s = some a → ACall P g args s.st (RetIn a) ∨ AExt P g args s.st (RetIn a)
  g : ∀ g args s a, R.g g args s = some a → ACall P g args s.st (RetIn a) ∨ AExt P g args s.st (RetIn a)
  h : ∀ g args s a, R.h g args s = some a → ACall P g args s.st (RetIn a)
  b : ∀ N x f s a, XOk P N x → R.b N x f s = some a → ∀ rd, AX P N rd x.un ⟨f, []⟩ s.st (ExIn a)
section
variable {P : Prg} {R : Rec}
theorem callA_some {k : KV} : ∀ {a0 a : Ans}, callA a0 k = some a → ∀ v s, Leaf (.ret v s) a0 → In (k v s) a
  | .ret v0 s0, a, h, v, s, hl => by
    cases hl
    exact In.of h
  | .ex e f s0, a, h, v, s, hl => by cases h
  | .two x y, a, h, v, s, hl => by
    have h : both (callA x k) (callA y k) = some a := h
    obtain ⟨⟨a1, h1, k1⟩, ⟨a2, h2, k2⟩⟩ := both_some h
    rcases hl with hl | hl
    · exact (callA_some h1 v s hl).sub k1
    · exact (callA_some h2 v s hl).sub k2
theorem callK_some {r : Res} {k : KV} {a : Ans} (h : callK r k = some a) : ∃ a0, r = some a0 ∧ ∀ v s, Leaf (.ret v s) a0 → In (k v s) a := by
  unfold callK at h
  split at h
  · exact ⟨_, rfl, callA_some h⟩
  · cases h
theorem exA_some {k : XExit → (Nat → AV) → ES → Res} : ∀ {a0 a : Ans}, exA a0 k = some a → ∀ e f s, Leaf (.ex e f s) a0 → In (k e f s) a
  | .ret v0 s0, a, h, e, f, s, hl => by cases h
  | .ex e0 f0 s0, a, h, e, f, s, hl => by
    cases hl
    exact In.of h
  | .two x y, a, h, e, f, s, hl => by
    have h : both (exA x k) (exA y k) = some a := h
    obtain ⟨⟨a1, h1, k1⟩, ⟨a2, h2, k2⟩⟩ := both_some h
    rcases hl with hl | hl
    · exact (exA_some h1 e f s hl).sub k1
    · exact (exA_some h2 e f s hl).sub k2
theorem exK_some {r : Res} {k : XExit → (Nat → AV) → ES → Res} {a : Ans} (h : exK r k = some a) : ∃ a0, r = some a0 ∧ ∀ e f s, Leaf (.ex e f s) a0 → In (k e f s) a := by
  unfold exK at h
  split at h
  · exact ⟨_, rfl, exA_some h⟩
  · cases h
theorem pPut_in {s : ES} {r : Nat} {b : Option Blk} {k : ES → Res} {a : Ans} (h : pPut s r b k = some a) : ∃ s', s'.st = (s.st.1.set r b, s.st.2) ∧ In (k s') a :=
  let ⟨s', h1, h2⟩ := pPut_some h; ⟨s', h1, In.of h2⟩
theorem eRoundEnd_some {r st : Nat} {e : XExit} {ρ : Env} {s : ES} {k : KV} {a : Ans} (h : eRoundEnd r st e s k = some a) : RoundEnd r st (fun v σ' => ∃ s', s'.st = σ' ∧ In (k v s') a) e ρ s.st := by
  unfold eRoundEnd at h
  unfold RoundEnd
  obtain ⟨b4, hb4, h⟩ := sAt_some h
  rw [hb4]
  split at h
  · cases e with
    | normal => exact pPut_in h
    | exit id => exact pPut_in h
    | ret => exact pPut_in h
  · cases h
theorem RoundEnd_mono {r st : Nat} {e : XExit} {ρ : Env} {σ : St} {K K' : AV → St → Prop} (hk : ∀ v σ', K v σ' → K' v σ') (h : RoundEnd r st K e ρ σ) : RoundEnd r st K' e ρ σ := by
  unfold RoundEnd at h ⊢
  split at h
  · cases e <;> exact hk _ _ h
  · exact h.elim
theorem eRoundMid_some (hR : RecOk P R) {r st N0 : Nat} {xb0 : XC} {e : XExit} {f : Nat → AV} {ρ : Env} {s : ES} {k : KV} {a : Ans} (o2 : XOk P N0 xb0) (hd : ρ.d = []) (hf : ∀ t, f t = ρ.f t ∨ f t = .u)
    (h : eRoundMid R.b r st N0 xb0 e f s k = some a) : RoundMid P r st N0 xb0 (fun v σ' => ∃ s', s'.st = σ' ∧ In (k v s') a) e ρ s.st := by
  unfold eRoundMid at h
  unfold RoundMid
  split at h
  · obtain ⟨b2, hb2, h⟩ := sAt_some h
    rw [hb2]
    split at h
    · obtain ⟨s2, hs2, h⟩ := pPut_some h
      simp only
      rw [← hs2]
      obtain ⟨a3, hb3, h⟩ := exK_some h
      have hax := hR.b _ _ _ _ _ o2 hb3 (some (r, st))
      refine (AX.weak hax (by simp only [hd]) hf).mono fun e ρ3 σ3 ⟨f3, s3, w1, w2, w3, w4⟩ => ?_
      obtain ⟨a', h', hs⟩ := h _ _ _ w1
      subst w4
      exact RoundEnd_mono (fun v σ' ⟨s', k1, k2⟩ => ⟨s', k1, k2.sub hs⟩) (eRoundEnd_some h')
    · cases h
  · cases h
theorem RoundMid_mono {r st N0 : Nat} {xb0 : XC} {e : XExit} {ρ : Env} {σ : St} {K K' : AV → St → Prop} (hk : ∀ v σ', K v σ' → K' v σ') (h : RoundMid P r st N0 xb0 K e ρ σ) : RoundMid P r st N0 xb0 K' e ρ σ := by
  unfold RoundMid at h ⊢
  split at h
  · exact h.mono fun e ρ σ h => RoundEnd_mono hk h
  · exact h.elim
theorem eRound_some (hR : RecOk P R) {r st : Nat} {args : List AV} {s : ES} {k : KV} {a : Ans} (h : eRound R.b r st args s k = some a) : ARound P r st args s.st fun v σ' => ∃ s', s'.st = σ' ∧ In (k v s') a := by
  unfold eRound at h
  unfold ARound
  obtain ⟨b, hb, h⟩ := sAt_some h
  rw [hb]
  split at h
  · rename_i st' pe N ρl ps xa xb dr ds
    obtain ⟨hlen, h⟩ := cond_some h
    have hlen := Nat.eq_of_beq_eq_true hlen
    rw [lenR_eq, lenR_eq] at hlen
    refine ⟨hlen, fun o1 o2 => ?_⟩
    obtain ⟨a1, hb1, h⟩ := exK_some h
    rw [putAllB_eq] at hb1
    refine (hR.b _ _ _ _ _ o1 hb1 _).mono fun e ρ1 σ1 ⟨f1, s1, q1, q2, q3, q4⟩ => ?_
    obtain ⟨a', h', hs⟩ := h _ _ _ q1
    subst q4
    exact RoundMid_mono (fun v σ' ⟨s', k1, k2⟩ => ⟨s', k1, k2.sub hs⟩) (eRoundMid_some hR o2 q2 q3 h')
  · cases h
theorem estep_plain {x : XOp} {f : Nat → AV} {s : ES} {k : KV} {a : Ans} (hc : ∀ g as, x ≠ .call g as) (hm : ∀ y, x ≠ .nextm y) (h : estep R x f s k = some a) : XStep P x f s.st fun v σ' => ∃ s', s'.st = σ' ∧ k v s' = some a := by
  have gen : pop s f x (fun v => k v s) = some a → (match xpure s.st.1 f x with | some v => ∃ s', s'.st = s.st ∧ k v s' = some a | none => False) := by
    intro h
    rw [pop_eq] at h
    obtain ⟨v, h1, h2⟩ := kont_some h
    rw [h1]
    exact ⟨s, rfl, h2⟩
  cases x <;> try exact gen h
  case alloc T z =>
    simp only [estep, pRow, frcN_eq, lenR_eq] at h
    exact pPush_some h
  case box T k0 x =>
    simp only [estep, pBox] at h
    obtain ⟨cs, h1, h⟩ := vCells_some h
    simp only [pRow, frcN_eq, lenR_eq] at h
    simp only [XStep, h1]
    exact pPush_some h
  case lit T k0 n z ps =>
    simp only [estep, pLit, fillK_eq] at h
    simp only [XStep]
    cases hc : fillA f z ps with
    | none => rw [hc] at h; cases h
    | some cs => rw [hc] at h; exact pPush_some h
  case store n p x =>
    simp only [estep, pStore_def] at h
    simp only [XStep]
    unfold storeAt
    cases hp : p.ev f <;> rw [hp] at h <;> try (cases h; done)
    rename_i r st k0 i o
    simp only at h
    obtain ⟨b, hb, h⟩ := sAt_some h
    split at h
    · rename_i st' T fz old
      obtain ⟨cs, h1, h⟩ := vCells_some h
      obtain ⟨g1, h⟩ := cond_some h
      obtain ⟨g2, h⟩ := cond_some h
      obtain ⟨g3, h⟩ := cond_some h
      obtain ⟨g4, h⟩ := cond_some h
      have g1 := Nat.eq_of_beq_eq_true g1
      have g2 := Nat.le_of_ble_eq_true g2
      have g3 : (i + 1) * k0 ≤ old.length := of_decide_eq_true g3
      have g4 := Nat.le_of_ble_eq_true g4
      rw [lenR_eq] at g1
      simp only [h1, hb]
      have g2' : o + n ≤ k0 := g2
      have g4' : fz ≤ i * k0 + o + 1 := g4
      rw [if_pos ⟨g1, g2', g3, g4'⟩]
      rw [overK_eq] at h
      exact pPut_some h
    · cases h
  case mksl T k0 z l c =>
    simp only [estep, pMk] at h
    simp only [XStep]
    split at h
    · rename_i l0 e1
      split at h
      · rename_i c0 e2
        rw [e1, e2]
        split at h
        · rename_i hcond
          simp only [frcLA_eq, frcN_eq] at h
          exact ⟨hcond.1, hcond.2.1, hcond.2.2, pPush_some h⟩
        · cases h
      · cases h
    · cases h
  case mkm =>
    simp only [estep, pMkm] at h
    exact pPush_some h
  case mset str x i v =>
    simp only [estep] at h
    obtain ⟨σ', h1, h2⟩ := pMset_some h
    simp only [XStep, h1]
    exact h2
  case mdel str x i =>
    simp only [estep] at h
    obtain ⟨σ', h1, h2⟩ := pMdel_some h
    simp only [XStep, h1]
    exact h2
  case mks x =>
    simp only [estep] at h
    obtain ⟨σ', h1, h2⟩ := pMks_some h
    simp only [XStep, h1]
    exact h2
  case cpy kk x y =>
    simp only [estep] at h
    obtain ⟨n, σ', h1, s', h2, h3⟩ := pCpy_some h
    simp only [XStep, h1]
    exact ⟨s', h2, h3⟩
  case clr kk z x =>
    simp only [estep] at h
    obtain ⟨σ', h1, h2⟩ := pClr_some h
    simp only [XStep, h1]
    exact h2
  case rngm x =>
    simp only [estep, pRngm] at h
    simp only [XStep]
    split at h
    · rename_i r st e1
      rw [e1]
      obtain ⟨b, hb, h⟩ := sAt_some h
      simp only [hb]
      split at h
      · exact pPush_some h
      · cases h
    · rename_i ck bs ks e1
      rw [e1]
      exact pPush_some h
    · cases h
  case nextm x => exact absurd rfl (hm x)
  case conv kk x =>
    cases kk <;> try exact gen h
    case s2b T =>
      simp only [estep, pS2b] at h
      simp only [XStep]
      split at h
      · rename_i l e1
        rw [e1]
        simp only [bytesK_eq, frcN_eq, lenR_eq] at h
        exact pPush_some h
      · cases h
  case bi b as =>
    cases b <;> try exact gen h
    case append T k0 z =>
      rcases as with _ | ⟨x, _ | ⟨y, _ | ⟨w, as⟩⟩⟩ <;> try exact gen h
      simp only [estep, pAppend] at h
      simp only [XStep]
      obtain ⟨m, new, h1, h⟩ := cellsK_some h
      rw [h1]
      obtain ⟨v, σ', h2, h3⟩ := pApp_some h
      simp only [h2]
      exact h3
    case appz T k0 z =>
      rcases as with _ | ⟨x, _ | ⟨y, _ | ⟨w, as⟩⟩⟩ <;> try exact gen h
      simp only [estep, pAppz] at h
      simp only [XStep]
      split at h
      · rename_i m hm
        rw [hm]
        simp only [frcLA_eq] at h
        obtain ⟨v, σ', h2, h3⟩ := pApp_some h
        simp only [h2]
        exact h3
      · cases h
    case ustr e =>
      rcases as with _ | ⟨x, _ | ⟨y, _ | ⟨w, as⟩⟩⟩ <;> try exact gen h
      simp only [estep] at h
      simp only [XStep]
      obtain ⟨m, l, σ', h1, h2, h3⟩ := pUstr_some h
      rw [h1]
      simp only [h2]
      exact h3
  case rng x =>
    simp only [estep, pRng] at h
    simp only [XStep]
    split at h
    · rename_i l e1
      rw [e1]
      exact pPush_some h
    · cases h
  case next x =>
    simp only [estep, pNext] at h
    simp only [XStep]
    split at h
    · rename_i r st e1
      rw [e1]
      simp only
      obtain ⟨b, hb, h⟩ := sAt_some h
      rw [hb]
      split at h
      · rename_i st' l pos
        simp only
        split at h
        · rename_i hp
          rw [if_pos hp]
          simp only [frcN_eq] at h
          exact pPut_some h
        · rename_i hp; rw [if_neg hp]; exact ⟨s, rfl, h⟩
      · cases h
    · cases h
  case call g args => exact absurd rfl (hc g args)
theorem estep_nextm {x : XO} {f : Nat → AV} {s : ES} {k : KV} {a : Ans} (h : estep R (.nextm x) f s k = some a) : XStep P (.nextm x) f s.st fun v σ' => ∃ s', s'.st = σ' ∧ In (k v s') a := by
  simp only [estep, pNextm] at h
  simp only [XStep]
  split at h
  · rename_i r st e1
    rw [e1]
    obtain ⟨b, hb, h⟩ := sAt_some h
    simp only [hb]
    split at h
    · rename_i st' rm sm since last seen
      obtain ⟨b2, hb2, h⟩ := sAt_some h
      simp only [hb2]
      split at h
      · rename_i ck es
        split at h
        · rename_i l hm
          simp only [hm]
          intro o ho
          obtain ⟨a', h', hs⟩ := allK_some h o ho
          cases o with
          | none => exact ⟨s, rfl, a', h', hs⟩
          | some e =>
            obtain ⟨kk, v, b⟩ := e
            simp only [frcLN_eq] at h'
            obtain ⟨s', k1, k2⟩ := pPut_some h'
            exact ⟨s', k1, a', k2, hs⟩
        · cases h
      · cases h
    · rename_i st' ck bs ks seen
      split at h
      · rename_i l hm
        simp only [hm]
        intro o ho
        obtain ⟨a', h', hs⟩ := allK_some h o ho
        cases o with
        | none => exact ⟨s, rfl, a', h', hs⟩
        | some e =>
          obtain ⟨kk, v, b⟩ := e
          simp only [frcLN_eq] at h'
          obtain ⟨s', k1, k2⟩ := pPut_some h'
          exact ⟨s', k1, a', k2, hs⟩
      · cases h
    · cases h
  · cases h
theorem estep_call (hR : RecOk P R) {g : XO} {args : List XO} {f : Nat → AV} {s : ES} {k : KV} {a : Ans} (h : estep R (.call g args) f s k = some a) : XStep P (.call g args) f s.st fun v σ' => ∃ s', s'.st = σ' ∧ In (k v s') a := by
  simp only [estep, evL_eq] at h
  have ret : ∀ {a0 : Ans}, (∀ v s, Leaf (.ret v s) a0 → In (k v s) a) → ∀ v' σ', RetIn a0 v' σ' → ∃ s', s'.st = σ' ∧ In (k v' s') a := by
    intro a0 h v' σ' ⟨s', h1, h2⟩
    exact ⟨s', h2, h v' s' h1⟩
  have gen : eCallV R.g R.b (g.ev f) (args.map (XO.ev f)) s k = some a → XStep P (.call g args) f s.st fun v σ' => ∃ s', s'.st = σ' ∧ In (k v s') a := by
    intro h
    unfold eCallV at h
    simp only [XStep]
    split at h
    · rename_i g0 first cap e1
      rw [e1]
      obtain ⟨a0, h1, h2⟩ := callK_some h
      rcases hR.g _ _ _ _ h1 with hh | hh
      · exact .inl (hh.mono (ret h2))
      · exact .inr (hh.mono (ret h2))
    · rename_i r st e1
      rw [e1]
      exact eRound_some hR h
    · cases h
  cases g with
  | f n =>
    simp only [eCall] at h
    obtain ⟨a0, h1, h2⟩ := callK_some h
    simp only [XStep, XO.ev, List.nil_append, List.append_nil]
    rcases hR.f _ _ _ _ h1 with hh | hh
    · exact .inl (hh.mono (ret h2))
    · exact .inr (hh.mono (ret h2))
  | t n => exact gen h
  | c v => exact gen h
end
end Hb
end

section
set_option linter.unusedVariables false
set_option linter.unusedSimpArgs false
set_option linter.constructorNameAsVariable false
set_option autoImplicit false
set_option linter.unusedSimpArgs false
set_option linter.unusedVariables false
set_option linter.constructorNameAsVariable false
namespace Hb
open Go
def asgL (l : List XOper) : List Nat := l.filterMap (·.dst)
def asgD : DT → List Nat
  | .done => []
  | .one o t => o.dst.toList ++ asgD t
  | .act o _ t alt => o.dst.toList ++ (asgD t ++ asgD alt)
  | .stop => []
def asg : XC → List Nat
  | .skip => []
  | .ops l => asgL l
  | .draw t => asgD t
  | .seq _ a b => asg a ++ asg b
  | .cond _ a b => asg a ++ asg b
  | .block _ a => asg a
  | .loop _ a => asg a
  | .range _ _ _ _ _ => []
  | .tag _ _ => []
  | .exit _ => []
  | .ret => []
  | .bad => []
noncomputable def hasN (l : List Nat) (n : Nat) : Bool := List.rec (motive := fun _ => Bool) false (fun a _ ih => cond (Nat.beq n a) true ih) l
theorem hasN_iff {l : List Nat} {n : Nat} : hasN l n = true ↔ n ∈ l := by
  induction l with
  | nil => simp [hasN]
  | cons a l ih =>
    have : hasN (a :: l) n = cond (Nat.beq n a) true (hasN l n) := rfl
    rw [this, beqN, List.mem_cons]
    by_cases h : n = a <;> simp [h, ih]
noncomputable def mskF (L : List Nat) (f : Nat → AV) : Nat → AV := fun n => cond (hasN L n) .u (f n)
theorem mskF_in {L : List Nat} {f : Nat → AV} {n : Nat} (h : n ∈ L) : mskF L f n = .u := by
  unfold mskF; rw [hasN_iff.2 h]; rfl
theorem mskF_out {L : List Nat} {f : Nat → AV} {n : Nat} (h : n ∉ L) : mskF L f n = f n := by
  unfold mskF
  have : hasN L n = false := by rw [Bool.eq_false_iff]; exact fun hh => h (hasN_iff.1 hh)
  rw [this]; rfl
abbrev KN := (Nat → AV) → List (Nat × Nat) → ES → Res
abbrev KE := XExit → (Nat → AV) → List (Nat × Nat) → ES → Res
abbrev Den := (Nat → AV) → List (Nat × Nat) → ES → KN → KE → Res
abbrev Cur (A : List Nat) : Type := List.rec (motive := fun _ => Type) (List (Nat × Nat) → ES → Res) (fun _ _ ih => AV → ih) A
noncomputable abbrev cur (A : List Nat) (g : Nat → AV) (F : KN) : Cur A :=
  List.rec (motive := fun A => (Nat → AV) → Cur A) (fun g => F g) (fun a _ ih g => fun v => ih (updB g a v)) A g
noncomputable abbrev app (A : List Nat) (C : Cur A) (f : Nat → AV) : List (Nat × Nat) → ES → Res :=
  List.rec (motive := fun A => Cur A → List (Nat × Nat) → ES → Res) (fun C => C) (fun a _ ih C => ih (C (f a))) A C
def joinF (A : List Nat) (g f : Nat → AV) : Nat → AV :=
  match A with
  | [] => g
  | a :: A => joinF A (updB g a (f a)) f
theorem app_cur : ∀ (A : List Nat) (g f : Nat → AV) (F : KN) (d : List (Nat × Nat)) (s : ES), app A (cur A g F) f d s = F (joinF A g f) d s
  | [], g, f, F, d, s => rfl
  | a :: A, g, f, F, d, s => by
    have : app (a :: A) (cur (a :: A) g F) f d s = app A (cur A (updB g a (f a)) F) f d s := rfl
    rw [this, app_cur A]; rfl
theorem joinF_or : ∀ (A : List Nat) (g f : Nat → AV) (t : Nat), joinF A g f t = f t ∨ joinF A g f t = g t
  | [], g, f, t => .inr rfl
  | a :: A, g, f, t => by
    simp only [joinF]
    rcases joinF_or A (updB g a (f a)) f t with h | h
    · exact .inl h
    · rw [h]
      unfold updB
      rw [beqN]
      by_cases e : t = a
      · subst e; simp
      · simp [e]
noncomputable def jn (A : List Nat) (K : Cur A) (B : Cur A → Res) : Res := B K
noncomputable def jv (k : KV) (B : KV → Res) : Res := B k
noncomputable def jr (k : Res) (B : Res → Res) : Res := B k
noncomputable def lp (A : List Nat) (n : Nat) (B : Cur A → Cur A) : Cur A :=
  Nat.rec (motive := fun _ => Cur A) (cur A (fun _ => .u) fun _ _ _ => none) (fun _ ih => B ih) n
noncomputable def eGuard (v : AV) (want : Bool) (yes no : Res) : Res :=
  elBT v (fun y => cnd (cond want y (!y)) yes no) (fun l => List.rec (motive := fun _ => Res) no (fun _ _ _ => none) l)
theorem eGuard_def (v : AV) (want : Bool) (yes no : Res) : eGuard v want yes no = (match v with
  | .b y => cond (cond want y (!y)) yes no
  | .tup [] => no
  | _ => none) := by
  cases v <;> try rfl
  case b y => exact cnd_eq _ _ _
  case tup l => cases l <;> rfl
noncomputable abbrev eOne (R : Rec) (o : XOper) (f : Nat → AV) (s : ES) (k : KV) : Res :=
  match o.guard with
  | none => estep R o.op f s k
  | some (t, want) => jv k fun K => eGuard (f t) want (estep R o.op f s K) (K (.tup []) s)
abbrev KF := (Nat → AV) → ES → Res
noncomputable abbrev eOps (R : Rec) (l : List XOper) (f : Nat → AV) (s : ES) (k : KF) : Res :=
  List.rec (motive := fun _ => (Nat → AV) → ES → Res) (fun f s => k f s) (fun o _ ih f s => eOne R o f s fun v s' => ih (putF f o.dst v) s') l f s
noncomputable def eqLst (eq : AV → AV → Bool) (l m : List AV) : Bool :=
  List.rec (motive := fun _ => List AV → Bool) (fun m => List.casesOn m true fun _ _ => false) (fun a _ ih m => List.casesOn m false fun b t => cond (eq a b) (ih t) false) l m
theorem eqLst_eq {eq : AV → AV → Bool} (he : ∀ x y, eq x y = true → x = y) : ∀ {l m : List AV}, eqLst eq l m = true → l = m
  | [], [], _ => rfl
  | [], _ :: _, h => by cases h
  | _ :: _, [], h => by cases h
  | a :: l, b :: m, h => by
    have h : cond (eq a b) (eqLst eq l m) false = true := h
    cases hab : eq a b with
    | false => rw [hab] at h; cases h
    | true =>
      rw [hab] at h
      rw [he a b hab, eqLst_eq he h]
noncomputable def avEq1 (eq : AV → AV → Bool) (x y : AV) : Bool :=
  match x, y with
  | .i k n, .i k' n' => kEq k k' && iEq n n'
  | .b x, .b y => decide (x = y)
  | .s x, .s y => natEqL x y
  | .p r st k i o, .p r' st' k' i' o' => Nat.beq r r' && Nat.beq st st' && Nat.beq k k' && Nat.beq i i' && Nat.beq o o'
  | .gr r st i n k, .gr r' st' i' n' k' => Nat.beq r r' && Nat.beq st st' && Nat.beq i i' && Nat.beq n n' && Nat.beq k k'
  | .pe cs k i o, .pe cs' k' i' o' => Nat.beq k k' && Nat.beq i i' && Nat.beq o o' && eqLst eq cs cs'
  | .sl k n cs, .sl k' n' cs' => Nat.beq k k' && Nat.beq n n' && eqLst eq cs cs'
  | .np, .np => true
  | .ns, .ns => true
  | .sz, .sz => true
  | .nm, .nm => true
  | .nf, .nf => true
  | .ni, .ni => true
  | .fy r st, .fy r' st' => Nat.beq r r' && Nat.beq st st'
  | .tup x, .tup y => eqLst eq x y
  | .agg x, .agg y => eqLst eq x y
  | .ifc t x, .ifc t' y => Nat.beq t t' && eq x y
  | .fn (.func f) a b, .fn (.func f') a' b' => Nat.beq f f' && eqLst eq a a' && eqLst eq b b'
  | .m r st, .m r' st' => Nat.beq r r' && Nat.beq st st'
  | .it r st, .it r' st' => Nat.beq r r' && Nat.beq st st'
  | _, _ => false
theorem avEq1_eq {eq : AV → AV → Bool} (he : ∀ x y, eq x y = true → x = y) {x y : AV} (h : avEq1 eq x y = true) : x = y := by
  have hl : ∀ {l m : List AV}, eqLst eq l m = true → l = m := fun h => eqLst_eq he h
  unfold avEq1 at h
  split at h <;> (try simp only [Bool.and_eq_true, Nat.beq_eq, kEq_eq, iEq_eq, natEqL_eq, decide_eq_true_eq, beq_iff_eq] at h) <;> try (cases h; done)
  all_goals first
    | rfl
    | (obtain ⟨⟨⟨⟨h1, h2⟩, h3⟩, h4⟩, h5⟩ := h; subst h1 h2 h3 h4 h5; rfl)
    | (obtain ⟨⟨⟨h1, h2⟩, h3⟩, h4⟩ := h; have h4 := hl h4; subst h1 h2 h3 h4; rfl)
    | (obtain ⟨⟨h1, h2⟩, h3⟩ := h; have h3 := hl h3; subst h1 h2 h3; rfl)
    | (obtain ⟨⟨h1, h2⟩, h3⟩ := h; have h3 := hl h3; have h2 := hl h2; subst h1 h2 h3; rfl)
    | (obtain ⟨h1, h2⟩ := h; subst h1 h2; rfl)
    | (obtain ⟨h1, h2⟩ := h; have h2 := he _ _ h2; subst h1 h2; rfl)
    | (subst h; rfl)
    | (have h := hl h; subst h; rfl)
noncomputable def avEq (x y : AV) : Bool := Nat.rec (motive := fun _ => AV → AV → Bool) (fun _ _ => false) (fun _ ih x y => avEq1 ih x y) 20 x y
theorem avEq_eq {x y : AV} (h : avEq x y = true) : x = y := by
  have : ∀ (n : Nat) (x y : AV), (Nat.rec (motive := fun _ => AV → AV → Bool) (fun _ _ => false) (fun _ ih x y => avEq1 ih x y) n : AV → AV → Bool) x y = true → x = y := by
    intro n
    induction n with
    | zero => intro x y h; cases h
    | succ n ih => intro x y h; exact avEq1_eq ih h
  exact this 20 x y h
noncomputable abbrev eEqd (d : Option Nat) (f : Nat → AV) (v : AV) (k : Res) : Res :=
  match d with
  | some d => cond (avEq v (f d)) k none
  | none => k
noncomputable abbrev eAgain (o : XOper) (f : Nat → AV) (s : ES) (k : Res) : Res :=
  cond o.op.reads (match o.guard with
    | none => pop s f o.op fun v => eEqd o.dst f v k
    | some (t, want) => jr k fun K => eGuard (f t) want (pop s f o.op fun v => eEqd o.dst f v K) (eEqd o.dst f (.tup []) K)) none
noncomputable abbrev eAgains (l : List XOper) (f : Nat → AV) (s : ES) (k : Res) : Res :=
  List.rec (motive := fun _ => Res) k (fun o _ ih => eAgain o f s ih) l
def isStop : DT → Bool
  | .stop => true
  | _ => false
noncomputable abbrev eTree (R : Rec) (t : DT) (f : Nat → AV) (s : ES) (k : KF) : Res :=
  DT.rec (motive := fun _ => (Nat → AV) → ES → Res) (fun f s => k f s)
    (fun o _ ih f s => eOne R o f s fun v s' => ih (putF f o.dst v) s')
    (fun o ag _ alt ih ihb f s => cond (isStop alt) (eOne R o f s fun v s' => eAgains ag (putF f o.dst v) s' (ih (putF f o.dst v) s')) (both (eOne R o f s fun v s' => eAgains ag (putF f o.dst v) s' (ih (putF f o.dst v) s')) (ihb f s)))
    (fun _ _ => none) t f s
abbrev dSkip : Den := fun f d s kN _ => kN f d s
noncomputable abbrev dOps (R : Rec) (l : List XOper) : Den := fun f d s kN _ => eOps R l f s fun f s => kN f d s
noncomputable abbrev dDraw (R : Rec) (t : DT) : Den := fun f d s kN _ => eTree R t f s fun f s => kN f d s
noncomputable abbrev dSeq (j : Option (List Nat)) (A : List Nat) (a b : Den) : Den :=
  match j with
  | none => fun f d s kN kE => a f d s (fun f d s => b f d s kN kE) kE
  | some J => fun f d s kN kE => jn J (cur J (mskF A f) fun f d s => b f d s kN kE) fun K => a f d s (app J K) kE
noncomputable def eCond (v : AV) (a b : Res) : Res :=
  elB v fun t => cnd t a b
theorem eCond_def (v : AV) (a b : Res) : eCond v a b = (match v with
  | .b t => cond t a b
  | _ => none) := by
  cases v <;> try rfl
  exact cnd_eq _ _ _
noncomputable abbrev dCond (c : XO) (a b : Den) : Den := fun f d s kN kE => eCond (c.ev f) (a f d s kN kE) (b f d s kN kE)
def xsel (id : Nat) (e : XExit) (yes : Res) (no : XExit → Res) : Res :=
  match e with
  | .exit i => cond (Nat.beq i id) yes (no (.exit i))
  | e => no e
abbrev kBlk (id : Nat) (kN : KN) (kE : KE) (e : XExit) (f : Nat → AV) (d : List (Nat × Nat)) (s : ES) : Res := xsel id e (kN f d s) fun e => kE e f d s
abbrev dBlock (id : Nat) (a : Den) : Den := fun f d s kN kE => a f d s kN (kBlk id kN kE)
noncomputable abbrev dLoop (L A : List Nat) (a : Den) : Den := fun f d s _ kE => app L (lp L 30000 fun ih => cur L (mskF A f) fun f d s => a f d s (app L ih) kE) f d s
abbrev dExit (id : Nat) : Den := fun f d s _ kE => kE (.exit id) f d s
abbrev dRet : Den := fun f d s _ kE => kE .ret f d s
abbrev dBad : Den := fun _ _ _ _ _ => none
noncomputable def ePend (pe : Option XExit) (r : Nat) (d : List (Nat × Nat)) (s : ES) (kn : List (Nat × Nat) → ES → Res) (ke : XExit → List (Nat × Nat) → ES → Res) : Res :=
  match pe with
  | none => pPut s r none fun s' => kn d s'
  | some .normal => pPut s r none fun s' => kn d s'
  | some e => pPut s r none fun s' => ke e d s'
noncomputable def eRangeEnd (r st : Nat) (d : List (Nat × Nat)) (s : ES) (kn : List (Nat × Nat) → ES → Res) (ke : XExit → List (Nat × Nat) → ES → Res) : Res :=
  sAt s r st fun b => (match b with
  | .loop _ state pe _ _ _ _ _ _ _ => (match state with
    | .busy => none
    | _ => ePend pe r d s kn ke)
  | _ => none)
noncomputable def allLt (ps : List Nat) (N : Nat) : Bool := List.rec (motive := fun _ => Bool) true (fun p _ ih => cond (Nat.ble (Nat.succ p) N) ih false) ps
noncomputable def pRange (Rh : FuncId → List AV → ES → Res) (N : Nat) (g : AV) (ps : List Nat) (ρ : Nat → AV) (xa xb : XC) (d : List (Nat × Nat)) (s : ES) (kn : List (Nat × Nat) → ES → Res) (ke : XExit → List (Nat × Nat) → ES → Res) : Res :=
  match g with
  | .fn (.func gf) first cap =>
    cond (allLt ps N) (pPush s (fun x => .dfr x) fun r0 x0 s1 => pPush s1 (fun x => .loop x .ready none N ρ ps xa xb r0 x0) fun r1 x1 s2 =>
      callK (Rh gf (first ++ [.fy r1 x1] ++ cap) s2) fun _ s3 => eRangeEnd r1 x1 ((r0, x0) :: d) s3 kn ke) none
  | _ => none
noncomputable abbrev dRange (R : Rec) (N : Nat) (top : Bool) (g : XO) (ps L : List Nat) (xa xb : XC) : Den := fun f d s kN kE =>
  cond top (pRange R.h N (g.ev f) ps (pickF L f) xa xb d s (fun d s => kN f d s) fun e d s => kE e f d s) none
noncomputable abbrev den (R : Rec) (N : Nat) (top : Bool) (x : XC) : Den :=
  XC.rec (motive := fun _ => Den) dSkip (fun l => dOps R l) (fun t => dDraw R t) (fun j a _ ia ib => dSeq j (asg a) ia ib) (fun c _ _ ia ib => dCond c ia ib) (fun id _ ia => dBlock id ia)
    (fun L a ia => dLoop L (asg a) ia) (fun g ps L a b _ _ => dRange R N top g ps L a b) (fun _ _ _ => dBad) (fun id => dExit id) dRet dBad x
def atExit (kN : KN) (kE : KE) (e : XExit) (f : Nat → AV) (d : List (Nat × Nat)) (s : ES) : Res :=
  match e with
  | .normal => kN f d s
  | e => kE e f d s
section
variable {P : Prg}
theorem ARound_mono {r st : Nat} {args : List AV} {σ : St} {K K' : AV → St → Prop} (h : ARound P r st args σ K) (hk : ∀ v σ', K v σ' → K' v σ') : ARound P r st args σ K' := by
  unfold ARound at h ⊢
  split at h
  · refine ⟨h.1, fun o1 o2 => (h.2 o1 o2).mono fun e ρ σ h => ?_⟩
    unfold RoundMid at h ⊢
    split at h
    · refine h.mono fun e ρ σ h => ?_
      unfold RoundEnd at h ⊢
      split at h
      · cases e <;> exact hk _ _ h
      · exact h.elim
    · exact h.elim
  · exact h.elim
theorem XStep_mono {x : XOp} {f : Nat → AV} {σ : St} {K K' : AV → St → Prop} (h : XStep P x f σ K) (hk : ∀ v σ', K v σ' → K' v σ') : XStep P x f σ K' := by
  have gen : (match xpure σ.1 f x with | some v => K v σ | none => False) → (match xpure σ.1 f x with | some v => K' v σ | none => False) := by
    intro h
    cases hx : xpure σ.1 f x with
    | none => rw [hx] at h; exact h.elim
    | some v => rw [hx] at h; exact hk _ _ h
  cases x <;> try exact gen h
  case alloc => exact hk _ _ h
  case box T k0 x =>
    simp only [XStep] at h ⊢
    split at h
    · exact hk _ _ h
    · exact h.elim
  case lit T k0 n z ps =>
    simp only [XStep] at h ⊢
    split at h
    · exact hk _ _ h
    · exact h.elim
  case store n p x =>
    simp only [XStep] at h ⊢
    split at h
    · split at h
      · exact hk _ _ h
      · exact h.elim
    · exact h.elim
  case mksl T k0 z l c =>
    simp only [XStep] at h ⊢
    split at h
    · exact ⟨h.1, h.2.1, h.2.2.1, hk _ _ h.2.2.2⟩
    · exact h.elim
  case conv kk x =>
    cases kk <;> try exact gen h
    case s2b T =>
      simp only [XStep] at h ⊢
      split at h
      · exact hk _ _ h
      · exact h.elim
  case bi b as =>
    cases b <;> try exact gen h
    case append T k0 z =>
      rcases as with _ | ⟨x, _ | ⟨y, _ | ⟨w, as⟩⟩⟩ <;> try exact gen h
      simp only [XStep] at h ⊢
      split at h
      · split at h
        · exact hk _ _ h
        · exact h.elim
      · exact h.elim
    case appz T k0 z =>
      rcases as with _ | ⟨x, _ | ⟨y, _ | ⟨w, as⟩⟩⟩ <;> try exact gen h
      simp only [XStep] at h ⊢
      split at h
      · split at h
        · exact hk _ _ h
        · exact h.elim
      · exact h.elim
    case ustr e =>
      rcases as with _ | ⟨x, _ | ⟨y, _ | ⟨w, as⟩⟩⟩ <;> try exact gen h
      simp only [XStep] at h ⊢
      split at h
      · split at h
        · exact hk _ _ h
        · exact h.elim
      · exact h.elim
  case rng x =>
    simp only [XStep] at h ⊢
    split at h
    · exact hk _ _ h
    · exact h.elim
  case next x =>
    simp only [XStep] at h ⊢
    split at h
    · split at h
      · split at h
        · rename_i hp; rw [if_pos hp]; exact hk _ _ h
        · rename_i hp; rw [if_neg hp]; exact hk _ _ h
      · exact h.elim
    · exact h.elim
  case mkm => exact hk _ _ h
  case mset str x i v =>
    simp only [XStep] at h ⊢
    split at h
    · exact hk _ _ h
    · exact h.elim
  case mdel str x i =>
    simp only [XStep] at h ⊢
    split at h
    · exact hk _ _ h
    · exact h.elim
  case clr kk z x =>
    simp only [XStep] at h ⊢
    split at h
    · exact hk _ _ h
    · exact h.elim
  case cpy kk x y =>
    simp only [XStep] at h ⊢
    split at h
    · exact hk _ _ h
    · exact h.elim
  case mks x =>
    simp only [XStep] at h ⊢
    split at h
    · exact hk _ _ h
    · exact h.elim
  case rngm x =>
    simp only [XStep] at h ⊢
    split at h
    · split at h
      · exact hk _ _ h
      · exact h.elim
    · exact hk _ _ h
    · exact h.elim
  case nextm x =>
    simp only [XStep] at h ⊢
    split at h
    · split at h
      · split at h
        · split at h
          · rename_i l hl
            intro o ho
            have := h o ho
            cases o with
            | none => exact hk _ _ this
            | some e => exact hk _ _ this
          · exact h.elim
        · exact h.elim
      · split at h
        · rename_i l hl
          intro o ho
          have := h o ho
          cases o with
          | none => exact hk _ _ this
          | some e => exact hk _ _ this
        · exact h.elim
      · exact h.elim
    · exact h.elim
  case call g args =>
    simp only [XStep] at h ⊢
    split at h
    · exact h.imp (fun h => h.mono hk) (fun h => h.mono hk)
    · exact ARound_mono h hk
    · exact h.elim
theorem XOne_mono {o : XOper} {ρ : Env} {σ : St} {K K' : AV → St → Prop} (h : XOne P o ρ σ K) (hk : ∀ v σ', K v σ' → K' v σ') : XOne P o ρ σ K' := by
  unfold XOne at h ⊢
  split at h
  · exact XStep_mono h hk
  · split at h
    · split at h
      · rename_i hy; rw [if_pos hy]; exact XStep_mono h hk
      · rename_i hy; rw [if_neg hy]; exact hk _ _ h
    · exact hk _ _ h
    · exact h.elim
theorem XGo_mono {K K' : Env → St → Prop} (hk : ∀ ρ σ, K ρ σ → K' ρ σ) : ∀ {l : List XOper} {ρ : Env} {σ : St}, XGo P l ρ σ K → XGo P l ρ σ K'
  | [], ρ, σ, h => hk _ _ h
  | o :: l, ρ, σ, h => by
    simp only [XGo] at h ⊢
    exact XOne_mono h fun v σ' h => XGo_mono hk h
theorem XTree_mono {K K' : Env → St → Prop} (hk : ∀ ρ σ, K ρ σ → K' ρ σ) : ∀ {t : DT} {ρ : Env} {σ : St}, XTree P t ρ σ K → XTree P t ρ σ K'
  | .done, ρ, σ, h => hk _ _ h
  | .one o t, ρ, σ, h => by
    simp only [XTree] at h ⊢
    exact XOne_mono h fun v σ' h => XTree_mono hk h
  | .act o ag t alt, ρ, σ, h => by
    simp only [XTree] at h ⊢
    exact ⟨XOne_mono h.1 fun v σ' h => ⟨h.1, XTree_mono hk h.2⟩, XTree_mono hk h.2⟩
  | .stop, _, _, _ => trivial
end
section
variable {P : Prg} {R : Rec}
theorem eGuard_some {v : AV} {want : Bool} {yes no : Res} {a : Ans} (h : eGuard v want yes no = some a) : (∃ y, v = .b y ∧ ((y = want ∧ yes = some a) ∨ (y ≠ want ∧ no = some a))) ∨ (v = .tup [] ∧ no = some a) := by
  rw [eGuard_def] at h
  split at h
  · rename_i y
    left
    refine ⟨y, rfl, ?_⟩
    cases y <;> cases want <;> simp at h ⊢ <;> exact h
  · exact .inr ⟨rfl, h⟩
  · cases h
theorem estep_some (hR : RecOk P R) {x : XOp} {f : Nat → AV} {s : ES} {k : KV} {a : Ans} (h : estep R x f s k = some a) : XStep P x f s.st fun v σ' => ∃ s', s'.st = σ' ∧ In (k v s') a := by
  by_cases hc : ∃ g as, x = .call g as
  · obtain ⟨g, as, rfl⟩ := hc
    exact estep_call hR h
  · by_cases hm : ∃ y, x = .nextm y
    · obtain ⟨y, rfl⟩ := hm
      exact estep_nextm h
    · exact XStep_mono (estep_plain (fun g as e => hc ⟨g, as, e⟩) (fun y e => hm ⟨y, e⟩) h) fun v σ' ⟨s', h1, h2⟩ => ⟨s', h1, In.of h2⟩
theorem eOne_some (hR : RecOk P R) {o : XOper} {f : Nat → AV} {d : List (Nat × Nat)} {s : ES} {k : KV} {a : Ans} (h : eOne R o f s k = some a) : XOne P o ⟨f, d⟩ s.st fun v σ' => ∃ s', s'.st = σ' ∧ In (k v s') a := by
  unfold eOne at h
  unfold XOne
  split at h
  · rename_i hg; rw [hg]; exact estep_some hR h
  · rename_i t want hg
    rw [hg]
    simp only [jv] at h ⊢
    rcases eGuard_some h with ⟨y, hy, ⟨hw, h1⟩ | ⟨hw, h1⟩⟩ | ⟨hy, h1⟩
    · rw [hy]; simp only [hw, if_true]; exact estep_some hR h1
    · rw [hy]; simp only [hw, if_false]; exact ⟨s, rfl, In.of h1⟩
    · rw [hy]; exact ⟨s, rfl, In.of h1⟩
theorem put_keep {f : Nat → AV} {d : List (Nat × Nat)} {o : Option Nat} {v : AV} {t : Nat} (h : o ≠ some t) : putF f o v t = f t := by
  have e := congrArg (fun e : Env => e.f t) (putF_eq f d o v)
  simp only [put_f, h, if_false] at e
  exact e
theorem eOps_some (hR : RecOk P R) {d : List (Nat × Nat)} {k : KF} {a : Ans} : ∀ {l : List XOper} {f : Nat → AV} {s : ES}, eOps R l f s k = some a →
    XGo P l ⟨f, d⟩ s.st fun ρ' σ' => ∃ s', s'.st = σ' ∧ In (k ρ'.f s') a ∧ ρ'.d = d ∧ ∀ t, t ∉ asgL l → ρ'.f t = f t
  | [], f, s, h => ⟨s, rfl, In.of h, rfl, fun _ _ => rfl⟩
  | o :: l, f, s, h => by
    have h : eOne R o f s (fun v s' => eOps R l (putF f o.dst v) s' k) = some a := h
    simp only [XGo]
    have := eOne_some (d := d) hR h
    refine XOne_mono this fun v σ' ⟨s', hs', a', h', hsub⟩ => ?_
    rw [← hs', ← putF_eq]
    refine XGo_mono (fun ρ' σ'' ⟨s'', h1, h2, h3, h4⟩ => ⟨s'', h1, h2.sub hsub, h3, fun t ht => ?_⟩) (eOps_some hR (d := d) h')
    have ht' : t ∉ asgL l ∧ o.dst ≠ some t := by
      simp only [asgL, List.mem_filterMap] at ht ⊢
      exact ⟨fun ⟨x, h1, h2⟩ => ht ⟨x, by simp [h1], h2⟩, fun he => ht ⟨o, by simp, he⟩⟩
    rw [h4 t ht'.1]
    exact put_keep (d := d) ht'.2
theorem eEqd_some {d : Option Nat} {f : Nat → AV} {v : AV} {k : Res} {a : Ans} (h : eEqd d f v k = some a) : (∀ t, d = some t → v = f t) ∧ k = some a := by
  unfold eEqd at h
  split at h
  · obtain ⟨h1, h2⟩ := cond_some h
    exact ⟨fun t ht => by cases ht; exact avEq_eq h1, h2⟩
  · exact ⟨fun t ht => (by cases ht), h⟩
theorem eAgain_some {o : XOper} {f : Nat → AV} {d : List (Nat × Nat)} {s : ES} {k : Res} {a : Ans} (h : eAgain o f s k = some a) : Again P o ⟨f, d⟩ s.st ∧ k = some a := by
  unfold eAgain at h
  obtain ⟨hr, h⟩ := cond_some h
  have hact : o.op.isAct = false := by
    cases ho : o.op <;> rw [ho] at hr <;> simp only [XOp.reads, XOp.isAct] at hr ⊢ <;> try (cases hr; done)
    rename_i c x
    cases c <;> simp_all
  have hval : xval s.st.1 f o.op = xpure s.st.1 f o.op := by
    cases ho : o.op <;> first | rfl | (rw [ho] at hr; simp [XOp.reads] at hr)
  rw [Again_iff hact]
  unfold oneVal
  split at h
  · rename_i hg
    rw [hg]
    rw [pop_eq] at h
    obtain ⟨v, h1, h2⟩ := kont_some h
    obtain ⟨h3, h4⟩ := eEqd_some h2
    exact ⟨⟨v, by simp only; rw [hval]; exact h1, h3⟩, h4⟩
  · rename_i t want hg
    rw [hg]
    simp only [jr] at h ⊢
    rcases eGuard_some h with ⟨y, hy, ⟨hw, h1⟩ | ⟨hw, h1⟩⟩ | ⟨hy, h1⟩
    · rw [pop_eq] at h1
      obtain ⟨v, h2, h3⟩ := kont_some h1
      obtain ⟨h4, h5⟩ := eEqd_some h3
      rw [hy]
      exact ⟨⟨v, by simp only [hw, if_true]; rw [hval]; exact h2, h4⟩, h5⟩
    · obtain ⟨h4, h5⟩ := eEqd_some h1
      rw [hy]
      exact ⟨⟨_, by simp only [hw, if_false], h4⟩, h5⟩
    · obtain ⟨h4, h5⟩ := eEqd_some h1
      rw [hy]
      exact ⟨⟨_, rfl, h4⟩, h5⟩
theorem eAgains_some {f : Nat → AV} {d : List (Nat × Nat)} {s : ES} {k : Res} {a : Ans} : ∀ {l : List XOper}, eAgains l f s k = some a → AgainL P l ⟨f, d⟩ s.st ∧ k = some a
  | [], h => ⟨trivial, h⟩
  | o :: l, h => by
    have h : eAgain o f s (eAgains l f s k) = some a := h
    obtain ⟨h1, h2⟩ := eAgain_some (P := P) (d := d) h
    obtain ⟨h3, h4⟩ := eAgains_some h2
    exact ⟨⟨h1, h3⟩, h4⟩
theorem eTree_some (hR : RecOk P R) {d : List (Nat × Nat)} {k : KF} {a : Ans} : ∀ {t : DT} {f : Nat → AV} {s : ES}, eTree R t f s k = some a →
    XTree P t ⟨f, d⟩ s.st fun ρ' σ' => ∃ s', s'.st = σ' ∧ In (k ρ'.f s') a ∧ ρ'.d = d ∧ ∀ u, u ∉ asgD t → ρ'.f u = f u
  | .done, f, s, h => ⟨s, rfl, In.of h, rfl, fun _ _ => rfl⟩
  | .one o t, f, s, h => by
    have h : eOne R o f s (fun v s' => eTree R t (putF f o.dst v) s' k) = some a := h
    simp only [XTree]
    refine XOne_mono (eOne_some (d := d) hR h) fun v σ' ⟨s', hs', a', h', hsub⟩ => ?_
    rw [← hs', ← putF_eq]
    refine XTree_mono (fun ρ' σ'' ⟨s'', h1, h2, h3, h4⟩ => ⟨s'', h1, h2.sub hsub, h3, fun u hu => ?_⟩) (eTree_some hR (d := d) h')
    simp only [asgD, List.mem_append, not_or] at hu
    rw [h4 u hu.2]
    exact put_keep (d := d) fun e => hu.1 (by rw [e]; simp)
  | .act o ag t alt, f, s, h => by
    have main : ∀ {a0 : Ans}, (eOne R o f s fun v s' => eAgains ag (putF f o.dst v) s' (eTree R t (putF f o.dst v) s' k)) = some a0 → Sub a0 a →
        XOne P o ⟨f, d⟩ s.st fun v σ' => AgainL P ag ((⟨f, d⟩ : Env).put o.dst v) σ' ∧ XTree P t ((⟨f, d⟩ : Env).put o.dst v) σ' fun ρ' σ' => ∃ s', s'.st = σ' ∧ In (k ρ'.f s') a ∧ ρ'.d = d ∧ ∀ u, u ∉ asgD (.act o ag t alt) → ρ'.f u = f u := by
      intro a0 h hs0
      refine XOne_mono (eOne_some (d := d) hR h) fun v σ' ⟨s', hs', a', h', hsub⟩ => ?_
      rw [← hs', ← putF_eq]
      obtain ⟨g1, g2⟩ := eAgains_some (P := P) (d := d) h'
      refine ⟨g1, XTree_mono (fun ρ' σ'' ⟨s'', h1, h2, h3, h4⟩ => ⟨s'', h1, (h2.sub hsub).sub hs0, h3, fun u hu => ?_⟩) (eTree_some hR (d := d) g2)⟩
      simp only [asgD, List.mem_append, not_or] at hu
      rw [h4 u hu.2.1]
      exact put_keep (d := d) fun e => hu.1 (by rw [e]; simp)
    have h : cond (isStop alt) (eOne R o f s fun v s' => eAgains ag (putF f o.dst v) s' (eTree R t (putF f o.dst v) s' k)) (both (eOne R o f s fun v s' => eAgains ag (putF f o.dst v) s' (eTree R t (putF f o.dst v) s' k)) (eTree R alt f s k)) = some a := h
    simp only [XTree]
    cases hs : isStop alt with
    | true =>
      rw [hs] at h
      refine ⟨main h (Sub.refl a), ?_⟩
      cases alt with
      | stop => trivial
      | _ => cases hs
    | false =>
      rw [hs] at h
      obtain ⟨⟨a1, h1, s1⟩, ⟨a2, h2, s2⟩⟩ := both_some h
      refine ⟨main h1 s1, XTree_mono (fun ρ' σ'' ⟨s'', k1, k2, k3, k4⟩ => ⟨s'', k1, k2.sub s2, k3, fun u hu => ?_⟩) (eTree_some hR (d := d) h2)⟩
      simp only [asgD, List.mem_append, not_or] at hu
      exact k4 u hu.2.2
  | .stop, f, s, h => by cases h
end
end Hb
end
