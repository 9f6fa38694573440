/- A layer for programs of small data: values, stores, code, and an evaluator of code that the kernel runs; part 6. -/
import Derived.Test.YtfglajmanbjogaaGreatDoorH5
import Derived.Laws.Externs
import Derived.Laws.StandIn
import Derived.Lib.Bytealg
import Derived.KernelRfl

section
set_option linter.unusedVariables false
set_option linter.unusedSimpArgs false
set_option linter.constructorNameAsVariable false
set_option autoImplicit false
set_option linter.unusedSimpArgs false
set_option linter.unusedVariables false
set_option linter.constructorNameAsVariable false
namespace Hb
open Go

/-! ## The evaluator of code -/

def asgL (l : List XOper) : List Nat := l.filterMap (·.dst)

def asgD : DT → List Nat
  | .done => []
  | .one o t => o.dst.toList ++ asgD t
  | .act o _ t _ => o.dst.toList ++ asgD t
  | .stop => []

def asg : XC → List Nat
  | .skip => []
  | .ops l => asgL l
  | .draw t => asgD t
  | .seq _ a b => asg a ++ asg b
  | .cond _ a b => asg a ++ asg b
  | .block _ a => asg a
  | .loop _ a => asg a
  | .range _ _ _ _ _ => []
  | .tag _ _ => []
  | .exit _ => []
  | .ret => []
  | .bad => []

noncomputable def hasN (l : List Nat) (n : Nat) : Bool := List.rec (motive := fun _ => Bool) false (fun a _ ih => cond (Nat.beq n a) true ih) l

theorem hasN_iff {l : List Nat} {n : Nat} : hasN l n = true ↔ n ∈ l := by
  induction l with
  | nil => simp [hasN]
  | cons a l ih =>
    have : hasN (a :: l) n = cond (Nat.beq n a) true (hasN l n) := rfl
    rw [this, beqN, List.mem_cons]
    by_cases h : n = a <;> simp [h, ih]

/-- What code has assigned is forgotten. -/
noncomputable def mskF (L : List Nat) (f : Nat → AV) : Nat → AV := fun n => cond (hasN L n) .u (f n)

theorem mskF_in {L : List Nat} {f : Nat → AV} {n : Nat} (h : n ∈ L) : mskF L f n = .u := by
  unfold mskF; rw [hasN_iff.2 h]; rfl
theorem mskF_out {L : List Nat} {f : Nat → AV} {n : Nat} (h : n ∉ L) : mskF L f n = f n := by
  unfold mskF
  have : hasN L n = false := by rw [Bool.eq_false_iff]; exact fun hh => h (hasN_iff.1 hh)
  rw [this]; rfl

abbrev KN := (Nat → AV) → List (Nat × Nat) → ES → Res
abbrev KE := XExit → (Nat → AV) → List (Nat × Nat) → ES → Res
abbrev Den := (Nat → AV) → List (Nat × Nat) → ES → KN → KE → Res

/-! ### Joins -/

def Cur (A : List Nat) : Type := List.rec (motive := fun _ => Type) (List (Nat × Nat) → ES → Res) (fun _ _ ih => AV → ih) A
noncomputable abbrev cur (A : List Nat) (g : Nat → AV) (F : KN) : Cur A :=
  List.rec (motive := fun A => (Nat → AV) → Cur A) (fun g => F g) (fun a _ ih g => fun v => ih (updB g a v)) A g
noncomputable abbrev app (A : List Nat) (C : Cur A) (f : Nat → AV) : List (Nat × Nat) → ES → Res :=
  List.rec (motive := fun A => Cur A → List (Nat × Nat) → ES → Res) (fun C => C) (fun a _ ih C => ih (C (f a))) A C

def joinF (A : List Nat) (g f : Nat → AV) : Nat → AV :=
  match A with
  | [] => g
  | a :: A => joinF A (updB g a (f a)) f

theorem app_cur : ∀ (A : List Nat) (g f : Nat → AV) (F : KN) (d : List (Nat × Nat)) (s : ES), app A (cur A g F) f d s = F (joinF A g f) d s
  | [], g, f, F, d, s => rfl
  | a :: A, g, f, F, d, s => by
    have : app (a :: A) (cur (a :: A) g F) f d s = app A (cur A (updB g a (f a)) F) f d s := rfl
    rw [this, app_cur A]; rfl

theorem joinF_or : ∀ (A : List Nat) (g f : Nat → AV) (t : Nat), joinF A g f t = f t ∨ joinF A g f t = g t
  | [], g, f, t => .inr rfl
  | a :: A, g, f, t => by
    simp only [joinF]
    rcases joinF_or A (updB g a (f a)) f t with h | h
    · exact .inl h
    · rw [h]
      unfold updB
      rw [beqN]
      by_cases e : t = a
      · subst e; simp
      · simp [e]

noncomputable def jn (A : List Nat) (K : Cur A) (B : Cur A → Res) : Res := B K
noncomputable def jv (k : KV) (B : KV → Res) : Res := B k
noncomputable def jr (k : Res) (B : Res → Res) : Res := B k
noncomputable def lp (A : List Nat) (n : Nat) (B : Cur A → Cur A) : Cur A :=
  Nat.rec (motive := fun _ => Cur A) (cur A (fun _ => .u) fun _ _ _ => none) (fun _ ih => B ih) n

/-! ### Regions -/

noncomputable def eGuard (v : AV) (want : Bool) (yes no : Res) : Res :=
  match v with
  | .b y => cond (cond want y (!y)) yes no
  | .tup [] => no
  | _ => none

noncomputable abbrev eOne (R : Rec) (o : XOper) (f : Nat → AV) (s : ES) (k : KV) : Res :=
  match o.guard with
  | none => estep R o.op f s k
  | some (t, want) => jv k fun K => eGuard (f t) want (estep R o.op f s K) (K (.tup []) s)

abbrev KF := (Nat → AV) → ES → Res

noncomputable abbrev eOps (R : Rec) (l : List XOper) (f : Nat → AV) (s : ES) (k : KF) : Res :=
  List.rec (motive := fun _ => (Nat → AV) → ES → Res) (fun f s => k f s) (fun o _ ih f s => eOne R o f s fun v s' => ih (putF f o.dst v) s') l f s

noncomputable def eqLst (eq : AV → AV → Bool) (l m : List AV) : Bool :=
  List.rec (motive := fun _ => List AV → Bool) (fun m => List.casesOn m true fun _ _ => false) (fun a _ ih m => List.casesOn m false fun b t => cond (eq a b) (ih t) false) l m

theorem eqLst_eq {eq : AV → AV → Bool} (he : ∀ x y, eq x y = true → x = y) : ∀ {l m : List AV}, eqLst eq l m = true → l = m
  | [], [], _ => rfl
  | [], _ :: _, h => by cases h
  | _ :: _, [], h => by cases h
  | a :: l, b :: m, h => by
    have h : cond (eq a b) (eqLst eq l m) false = true := h
    cases hab : eq a b with
    | false => rw [hab] at h; cases h
    | true =>
      rw [hab] at h
      rw [he a b hab, eqLst_eq he h]

noncomputable def avEq1 (eq : AV → AV → Bool) (x y : AV) : Bool :=
  match x, y with
  | .i k n, .i k' n' => kEq k k' && iEq n n'
  | .b x, .b y => decide (x = y)
  | .s x, .s y => natEqL x y
  | .p r st k i o, .p r' st' k' i' o' => Nat.beq r r' && Nat.beq st st' && Nat.beq k k' && Nat.beq i i' && Nat.beq o o'
  | .gr r st i n k, .gr r' st' i' n' k' => Nat.beq r r' && Nat.beq st st' && Nat.beq i i' && Nat.beq n n' && Nat.beq k k'
  | .pe cs k i o, .pe cs' k' i' o' => Nat.beq k k' && Nat.beq i i' && Nat.beq o o' && eqLst eq cs cs'
  | .sl k n cs, .sl k' n' cs' => Nat.beq k k' && Nat.beq n n' && eqLst eq cs cs'
  | .np, .np => true
  | .ns, .ns => true
  | .sz, .sz => true
  | .nm, .nm => true
  | .nf, .nf => true
  | .ni, .ni => true
  | .fy r st, .fy r' st' => Nat.beq r r' && Nat.beq st st'
  | .tup x, .tup y => eqLst eq x y
  | .agg x, .agg y => eqLst eq x y
  | .ifc t x, .ifc t' y => Nat.beq t t' && eq x y
  | .fn (.func f) a b, .fn (.func f') a' b' => Nat.beq f f' && eqLst eq a a' && eqLst eq b b'
  | .m r st, .m r' st' => Nat.beq r r' && Nat.beq st st'
  | .it r st, .it r' st' => Nat.beq r r' && Nat.beq st st'
  | _, _ => false

theorem avEq1_eq {eq : AV → AV → Bool} (he : ∀ x y, eq x y = true → x = y) {x y : AV} (h : avEq1 eq x y = true) : x = y := by
  have hl : ∀ {l m : List AV}, eqLst eq l m = true → l = m := fun h => eqLst_eq he h
  unfold avEq1 at h
  split at h <;> (try simp only [Bool.and_eq_true, Nat.beq_eq, kEq_eq, iEq_eq, natEqL_eq, decide_eq_true_eq, beq_iff_eq] at h) <;> try (cases h; done)
  all_goals first
    | rfl
    | (obtain ⟨⟨⟨⟨h1, h2⟩, h3⟩, h4⟩, h5⟩ := h; subst h1 h2 h3 h4 h5; rfl)
    | (obtain ⟨⟨⟨h1, h2⟩, h3⟩, h4⟩ := h; have h4 := hl h4; subst h1 h2 h3 h4; rfl)
    | (obtain ⟨⟨h1, h2⟩, h3⟩ := h; have h3 := hl h3; subst h1 h2 h3; rfl)
    | (obtain ⟨⟨h1, h2⟩, h3⟩ := h; have h3 := hl h3; have h2 := hl h2; subst h1 h2 h3; rfl)
    | (obtain ⟨h1, h2⟩ := h; subst h1 h2; rfl)
    | (obtain ⟨h1, h2⟩ := h; have h2 := he _ _ h2; subst h1 h2; rfl)
    | (subst h; rfl)
    | (have h := hl h; subst h; rfl)

noncomputable def avEq (x y : AV) : Bool := Nat.rec (motive := fun _ => AV → AV → Bool) (fun _ _ => false) (fun _ ih x y => avEq1 ih x y) 20 x y

theorem avEq_eq {x y : AV} (h : avEq x y = true) : x = y := by
  have : ∀ (n : Nat) (x y : AV), (Nat.rec (motive := fun _ => AV → AV → Bool) (fun _ _ => false) (fun _ ih x y => avEq1 ih x y) n : AV → AV → Bool) x y = true → x = y := by
    intro n
    induction n with
    | zero => intro x y h; cases h
    | succ n ih => intro x y h; exact avEq1_eq ih h
  exact this 20 x y h

noncomputable abbrev eEqd (d : Option Nat) (f : Nat → AV) (v : AV) (k : Res) : Res :=
  match d with
  | some d => cond (avEq v (f d)) k none
  | none => k

noncomputable abbrev eAgain (o : XOper) (f : Nat → AV) (s : ES) (k : Res) : Res :=
  cond o.op.reads (match o.guard with
    | none => pop s f o.op fun v => eEqd o.dst f v k
    | some (t, want) => jr k fun K => eGuard (f t) want (pop s f o.op fun v => eEqd o.dst f v K) (eEqd o.dst f (.tup []) K)) none

noncomputable abbrev eAgains (l : List XOper) (f : Nat → AV) (s : ES) (k : Res) : Res :=
  List.rec (motive := fun _ => Res) k (fun o _ ih => eAgain o f s ih) l

def isStop : DT → Bool
  | .stop => true
  | _ => false

noncomputable abbrev eTree (R : Rec) (t : DT) (f : Nat → AV) (s : ES) (k : KF) : Res :=
  DT.rec (motive := fun _ => (Nat → AV) → ES → Res) (fun f s => k f s)
    (fun o _ ih f s => eOne R o f s fun v s' => ih (putF f o.dst v) s')
    (fun o ag _ alt ih _ f s => cond (isStop alt) (eOne R o f s fun v s' => eAgains ag (putF f o.dst v) s' (ih (putF f o.dst v) s')) none)
    (fun _ _ => none) t f s

/-! ### Code -/

abbrev dSkip : Den := fun f d s kN _ => kN f d s
noncomputable abbrev dOps (R : Rec) (l : List XOper) : Den := fun f d s kN _ => eOps R l f s fun f s => kN f d s
noncomputable abbrev dDraw (R : Rec) (t : DT) : Den := fun f d s kN _ => eTree R t f s fun f s => kN f d s
noncomputable abbrev dSeq (j : Option (List Nat)) (A : List Nat) (a b : Den) : Den :=
  match j with
  | none => fun f d s kN kE => a f d s (fun f d s => b f d s kN kE) kE
  | some J => fun f d s kN kE => jn J (cur J (mskF A f) fun f d s => b f d s kN kE) fun K => a f d s (app J K) kE
noncomputable def eCond (v : AV) (a b : Res) : Res :=
  match v with
  | .b t => cond t a b
  | _ => none
noncomputable abbrev dCond (c : XO) (a b : Den) : Den := fun f d s kN kE => eCond (c.ev f) (a f d s kN kE) (b f d s kN kE)
def xsel (id : Nat) (e : XExit) (yes : Res) (no : XExit → Res) : Res :=
  match e with
  | .exit i => cond (Nat.beq i id) yes (no (.exit i))
  | e => no e
abbrev kBlk (id : Nat) (kN : KN) (kE : KE) (e : XExit) (f : Nat → AV) (d : List (Nat × Nat)) (s : ES) : Res := xsel id e (kN f d s) fun e => kE e f d s
abbrev dBlock (id : Nat) (a : Den) : Den := fun f d s kN kE => a f d s kN (kBlk id kN kE)
noncomputable abbrev dLoop (L A : List Nat) (a : Den) : Den := fun f d s _ kE => app L (lp L 30000 fun ih => cur L (mskF A f) fun f d s => a f d s (app L ih) kE) f d s
abbrev dExit (id : Nat) : Den := fun f d s _ kE => kE (.exit id) f d s
abbrev dRet : Den := fun f d s _ kE => kE .ret f d s
abbrev dBad : Den := fun _ _ _ _ _ => none

noncomputable def ePend (pe : Option XExit) (r : Nat) (d : List (Nat × Nat)) (s : ES) (kn : List (Nat × Nat) → ES → Res) (ke : XExit → List (Nat × Nat) → ES → Res) : Res :=
  match pe with
  | none => pPut s r none fun s' => kn d s'
  | some .normal => pPut s r none fun s' => kn d s'
  | some e => pPut s r none fun s' => ke e d s'

noncomputable def eRangeEnd (r st : Nat) (d : List (Nat × Nat)) (s : ES) (kn : List (Nat × Nat) → ES → Res) (ke : XExit → List (Nat × Nat) → ES → Res) : Res :=
  sAt s r st fun b => (match b with
  | .loop _ state pe _ _ _ _ _ _ _ => (match state with
    | .busy => none
    | _ => ePend pe r d s kn ke)
  | _ => none)

noncomputable def allLt (ps : List Nat) (N : Nat) : Bool := List.rec (motive := fun _ => Bool) true (fun p _ ih => cond (Nat.ble (Nat.succ p) N) ih false) ps

noncomputable def pRange (Rh : FuncId → List AV → ES → Res) (N : Nat) (g : AV) (ps : List Nat) (ρ : Nat → AV) (xa xb : XC) (d : List (Nat × Nat)) (s : ES) (kn : List (Nat × Nat) → ES → Res) (ke : XExit → List (Nat × Nat) → ES → Res) : Res :=
  match g with
  | .fn (.func gf) first cap =>
    cond (allLt ps N) (pPush s (fun x => .dfr x) fun r0 x0 s1 => pPush s1 (fun x => .loop x .ready none N ρ ps xa xb r0 x0) fun r1 x1 s2 =>
      callK (Rh gf (first ++ [.fy r1 x1] ++ cap) s2) fun _ s3 => eRangeEnd r1 x1 ((r0, x0) :: d) s3 kn ke) none
  | _ => none

noncomputable abbrev dRange (R : Rec) (N : Nat) (top : Bool) (g : XO) (ps L : List Nat) (xa xb : XC) : Den := fun f d s kN kE =>
  cond top (pRange R.h N (g.ev f) ps (pickF L f) xa xb d s (fun d s => kN f d s) fun e d s => kE e f d s) none

noncomputable abbrev den (R : Rec) (N : Nat) (top : Bool) (x : XC) : Den :=
  XC.rec (motive := fun _ => Den) dSkip (fun l => dOps R l) (fun t => dDraw R t) (fun j a _ ia ib => dSeq j (asg a) ia ib) (fun c _ _ ia ib => dCond c ia ib) (fun id _ ia => dBlock id ia)
    (fun L a ia => dLoop L (asg a) ia) (fun g ps L a b _ _ => dRange R N top g ps L a b) (fun _ _ _ => dBad) (fun id => dExit id) dRet dBad x

def atExit (kN : KN) (kE : KE) (e : XExit) (f : Nat → AV) (d : List (Nat × Nat)) (s : ES) : Res :=
  match e with
  | .normal => kN f d s
  | e => kE e f d s

section
variable {P : Prg}

theorem ARound_mono {r st : Nat} {args : List AV} {σ : St} {K K' : AV → St → Prop} (h : ARound P r st args σ K) (hk : ∀ v σ', K v σ' → K' v σ') : ARound P r st args σ K' := by
  unfold ARound at h ⊢
  split at h
  · refine ⟨h.1, fun o1 o2 => (h.2 o1 o2).mono fun e ρ σ h => ?_⟩
    unfold RoundMid at h ⊢
    split at h
    · refine h.mono fun e ρ σ h => ?_
      unfold RoundEnd at h ⊢
      split at h
      · cases e <;> exact hk _ _ h
      · exact h.elim
    · exact h.elim
  · exact h.elim

theorem XStep_mono {x : XOp} {f : Nat → AV} {σ : St} {K K' : AV → St → Prop} (h : XStep P x f σ K) (hk : ∀ v σ', K v σ' → K' v σ') : XStep P x f σ K' := by
  have gen : (match xpure σ.1 f x with | some v => K v σ | none => False) → (match xpure σ.1 f x with | some v => K' v σ | none => False) := by
    intro h
    cases hx : xpure σ.1 f x with
    | none => rw [hx] at h; exact h.elim
    | some v => rw [hx] at h; exact hk _ _ h
  cases x <;> try exact gen h
  case alloc => exact hk _ _ h
  case box T k0 x =>
    simp only [XStep] at h ⊢
    split at h
    · exact hk _ _ h
    · exact h.elim
  case lit T k0 n z ps =>
    simp only [XStep] at h ⊢
    split at h
    · exact hk _ _ h
    · exact h.elim
  case store n p x =>
    simp only [XStep] at h ⊢
    split at h
    · split at h
      · exact hk _ _ h
      · exact h.elim
    · exact h.elim
  case mksl T k0 z l c =>
    simp only [XStep] at h ⊢
    split at h
    · exact ⟨h.1, h.2.1, h.2.2.1, hk _ _ h.2.2.2⟩
    · exact h.elim
  case conv kk x =>
    cases kk <;> try exact gen h
    case s2b T =>
      simp only [XStep] at h ⊢
      split at h
      · exact hk _ _ h
      · exact h.elim
  case bi b as =>
    cases b <;> try exact gen h
    case append T k0 z =>
      rcases as with _ | ⟨x, _ | ⟨y, _ | ⟨w, as⟩⟩⟩ <;> try exact gen h
      simp only [XStep] at h ⊢
      split at h
      · split at h
        · exact hk _ _ h
        · exact h.elim
      · exact h.elim
  case rng x =>
    simp only [XStep] at h ⊢
    split at h
    · exact hk _ _ h
    · exact h.elim
  case next x =>
    simp only [XStep] at h ⊢
    split at h
    · split at h
      · split at h
        · rename_i hp; rw [if_pos hp]; exact hk _ _ h
        · rename_i hp; rw [if_neg hp]; exact hk _ _ h
      · exact h.elim
    · exact h.elim
  case call g args =>
    simp only [XStep] at h ⊢
    split at h
    · exact h.imp (fun h => h.mono hk) (fun h => h.mono hk)
    · exact ARound_mono h hk
    · exact h.elim

theorem XOne_mono {o : XOper} {ρ : Env} {σ : St} {K K' : AV → St → Prop} (h : XOne P o ρ σ K) (hk : ∀ v σ', K v σ' → K' v σ') : XOne P o ρ σ K' := by
  unfold XOne at h ⊢
  split at h
  · exact XStep_mono h hk
  · split at h
    · split at h
      · rename_i hy; rw [if_pos hy]; exact XStep_mono h hk
      · rename_i hy; rw [if_neg hy]; exact hk _ _ h
    · exact hk _ _ h
    · exact h.elim

theorem XGo_mono {K K' : Env → St → Prop} (hk : ∀ ρ σ, K ρ σ → K' ρ σ) : ∀ {l : List XOper} {ρ : Env} {σ : St}, XGo P l ρ σ K → XGo P l ρ σ K'
  | [], ρ, σ, h => hk _ _ h
  | o :: l, ρ, σ, h => by
    simp only [XGo] at h ⊢
    exact XOne_mono h fun v σ' h => XGo_mono hk h

theorem XTree_mono {K K' : Env → St → Prop} (hk : ∀ ρ σ, K ρ σ → K' ρ σ) : ∀ {t : DT} {ρ : Env} {σ : St}, XTree P t ρ σ K → XTree P t ρ σ K'
  | .done, ρ, σ, h => hk _ _ h
  | .one o t, ρ, σ, h => by
    simp only [XTree] at h ⊢
    exact XOne_mono h fun v σ' h => XTree_mono hk h
  | .act o ag t alt, ρ, σ, h => by
    simp only [XTree] at h ⊢
    exact ⟨XOne_mono h.1 fun v σ' h => ⟨h.1, XTree_mono hk h.2⟩, XTree_mono hk h.2⟩
  | .stop, _, _, _ => trivial
end

section
variable {P : Prg} {R : Rec}

theorem eGuard_some {v : AV} {want : Bool} {yes no : Res} {a : Ans} (h : eGuard v want yes no = some a) : (∃ y, v = .b y ∧ ((y = want ∧ yes = some a) ∨ (y ≠ want ∧ no = some a))) ∨ (v = .tup [] ∧ no = some a) := by
  unfold eGuard at h
  split at h
  · rename_i y
    left
    refine ⟨y, rfl, ?_⟩
    cases y <;> cases want <;> simp at h ⊢ <;> exact h
  · exact .inr ⟨rfl, h⟩
  · cases h

theorem eOne_some (hR : RecOk P R) {o : XOper} {f : Nat → AV} {d : List (Nat × Nat)} {s : ES} {k : KV} {a : Ans} (h : eOne R o f s k = some a) : XOne P o ⟨f, d⟩ s.st fun v σ' => ∃ s', s'.st = σ' ∧ k v s' = some a := by
  unfold eOne at h
  unfold XOne
  split at h
  · rename_i hg; rw [hg]; exact estep_some hR h
  · rename_i t want hg
    rw [hg]
    simp only [jv] at h ⊢
    rcases eGuard_some h with ⟨y, hy, ⟨hw, h1⟩ | ⟨hw, h1⟩⟩ | ⟨hy, h1⟩
    · rw [hy]; simp only [hw, if_true]; exact estep_some hR h1
    · rw [hy]; simp only [hw, if_false]; exact ⟨s, rfl, h1⟩
    · rw [hy]; exact ⟨s, rfl, h1⟩

theorem put_keep {f : Nat → AV} {d : List (Nat × Nat)} {o : Option Nat} {v : AV} {t : Nat} (h : o ≠ some t) : putF f o v t = f t := by
  have e := congrArg (fun e : Env => e.f t) (putF_eq f d o v)
  simp only [put_f, h, if_false] at e
  exact e

theorem eOps_some (hR : RecOk P R) {d : List (Nat × Nat)} {k : KF} {a : Ans} : ∀ {l : List XOper} {f : Nat → AV} {s : ES}, eOps R l f s k = some a →
    XGo P l ⟨f, d⟩ s.st fun ρ' σ' => ∃ s', s'.st = σ' ∧ k ρ'.f s' = some a ∧ ρ'.d = d ∧ ∀ t, t ∉ asgL l → ρ'.f t = f t
  | [], f, s, h => ⟨s, rfl, h, rfl, fun _ _ => rfl⟩
  | o :: l, f, s, h => by
    have h : eOne R o f s (fun v s' => eOps R l (putF f o.dst v) s' k) = some a := h
    simp only [XGo]
    have := eOne_some (d := d) hR h
    refine XOne_mono this fun v σ' ⟨s', hs', h'⟩ => ?_
    rw [← hs', ← putF_eq]
    refine XGo_mono (fun ρ' σ'' ⟨s'', h1, h2, h3, h4⟩ => ⟨s'', h1, h2, h3, fun t ht => ?_⟩) (eOps_some hR (d := d) h')
    have ht' : t ∉ asgL l ∧ o.dst ≠ some t := by
      simp only [asgL, List.mem_filterMap] at ht ⊢
      exact ⟨fun ⟨x, h1, h2⟩ => ht ⟨x, by simp [h1], h2⟩, fun he => ht ⟨o, by simp, he⟩⟩
    rw [h4 t ht'.1]
    exact put_keep (d := d) ht'.2

theorem eEqd_some {d : Option Nat} {f : Nat → AV} {v : AV} {k : Res} {a : Ans} (h : eEqd d f v k = some a) : (∀ t, d = some t → v = f t) ∧ k = some a := by
  unfold eEqd at h
  split at h
  · obtain ⟨h1, h2⟩ := cond_some h
    exact ⟨fun t ht => by cases ht; exact avEq_eq h1, h2⟩
  · exact ⟨fun t ht => (by cases ht), h⟩

theorem eAgain_some {o : XOper} {f : Nat → AV} {d : List (Nat × Nat)} {s : ES} {k : Res} {a : Ans} (h : eAgain o f s k = some a) : Again P o ⟨f, d⟩ s.st ∧ k = some a := by
  unfold eAgain at h
  obtain ⟨hr, h⟩ := cond_some h
  have hact : o.op.isAct = false := by
    cases ho : o.op <;> rw [ho] at hr <;> simp only [XOp.reads, XOp.isAct] at hr ⊢ <;> try (cases hr; done)
    rename_i c x
    cases c <;> simp_all
  have hval : xval s.st.1 f o.op = xpure s.st.1 f o.op := by
    cases ho : o.op <;> first | rfl | (rw [ho] at hr; simp [XOp.reads] at hr)
  rw [Again_iff hact]
  unfold oneVal
  split at h
  · rename_i hg
    rw [hg]
    rw [pop_eq] at h
    obtain ⟨v, h1, h2⟩ := kont_some h
    obtain ⟨h3, h4⟩ := eEqd_some h2
    exact ⟨⟨v, by simp only; rw [hval]; exact h1, h3⟩, h4⟩
  · rename_i t want hg
    rw [hg]
    simp only [jr] at h ⊢
    rcases eGuard_some h with ⟨y, hy, ⟨hw, h1⟩ | ⟨hw, h1⟩⟩ | ⟨hy, h1⟩
    · rw [pop_eq] at h1
      obtain ⟨v, h2, h3⟩ := kont_some h1
      obtain ⟨h4, h5⟩ := eEqd_some h3
      rw [hy]
      exact ⟨⟨v, by simp only [hw, if_true]; rw [hval]; exact h2, h4⟩, h5⟩
    · obtain ⟨h4, h5⟩ := eEqd_some h1
      rw [hy]
      exact ⟨⟨_, by simp only [hw, if_false], h4⟩, h5⟩
    · obtain ⟨h4, h5⟩ := eEqd_some h1
      rw [hy]
      exact ⟨⟨_, rfl, h4⟩, h5⟩

theorem eAgains_some {f : Nat → AV} {d : List (Nat × Nat)} {s : ES} {k : Res} {a : Ans} : ∀ {l : List XOper}, eAgains l f s k = some a → AgainL P l ⟨f, d⟩ s.st ∧ k = some a
  | [], h => ⟨trivial, h⟩
  | o :: l, h => by
    have h : eAgain o f s (eAgains l f s k) = some a := h
    obtain ⟨h1, h2⟩ := eAgain_some (P := P) (d := d) h
    obtain ⟨h3, h4⟩ := eAgains_some h2
    exact ⟨⟨h1, h3⟩, h4⟩

theorem eTree_some (hR : RecOk P R) {d : List (Nat × Nat)} {k : KF} {a : Ans} : ∀ {t : DT} {f : Nat → AV} {s : ES}, eTree R t f s k = some a →
    XTree P t ⟨f, d⟩ s.st fun ρ' σ' => ∃ s', s'.st = σ' ∧ k ρ'.f s' = some a ∧ ρ'.d = d ∧ ∀ u, u ∉ asgD t → ρ'.f u = f u
  | .done, f, s, h => ⟨s, rfl, h, rfl, fun _ _ => rfl⟩
  | .one o t, f, s, h => by
    have h : eOne R o f s (fun v s' => eTree R t (putF f o.dst v) s' k) = some a := h
    simp only [XTree]
    refine XOne_mono (eOne_some (d := d) hR h) fun v σ' ⟨s', hs', h'⟩ => ?_
    rw [← hs', ← putF_eq]
    refine XTree_mono (fun ρ' σ'' ⟨s'', h1, h2, h3, h4⟩ => ⟨s'', h1, h2, h3, fun u hu => ?_⟩) (eTree_some hR (d := d) h')
    simp only [asgD, List.mem_append, not_or] at hu
    rw [h4 u hu.2]
    exact put_keep (d := d) fun e => hu.1 (by rw [e]; simp)
  | .act o ag t alt, f, s, h => by
    have h : cond (isStop alt) (eOne R o f s fun v s' => eAgains ag (putF f o.dst v) s' (eTree R t (putF f o.dst v) s' k)) none = some a := h
    obtain ⟨hs, h⟩ := cond_some h
    simp only [XTree]
    refine ⟨XOne_mono (eOne_some (d := d) hR h) fun v σ' ⟨s', hs', h'⟩ => ?_, ?_⟩
    · rw [← hs', ← putF_eq]
      obtain ⟨g1, g2⟩ := eAgains_some (P := P) (d := d) h'
      refine ⟨g1, XTree_mono (fun ρ' σ'' ⟨s'', h1, h2, h3, h4⟩ => ⟨s'', h1, h2, h3, fun u hu => ?_⟩) (eTree_some hR (d := d) g2)⟩
      simp only [asgD, List.mem_append, not_or] at hu
      rw [h4 u hu.2]
      exact put_keep (d := d) fun e => hu.1 (by rw [e]; simp)
    · cases alt with
      | stop => trivial
      | _ => cases hs
  | .stop, f, s, h => by cases h

end
end Hb
end

section
set_option linter.unusedVariables false
set_option linter.unusedSimpArgs false
set_option linter.constructorNameAsVariable false
set_option autoImplicit false
set_option linter.unusedSimpArgs false
set_option linter.unusedVariables false
set_option linter.constructorNameAsVariable false
namespace Hb
open Go

/-- What holds where the code x, begun with f, is left. -/
def DQ (A : List Nat) (f : Nat → AV) (kN : KN) (kE : KE) (a : Ans) (e : XExit) (ρ : Env) (σ : St) : Prop :=
  ∃ s, s.st = σ ∧ atExit kN kE e ρ.f ρ.d s = some a ∧ ∀ t, t ∉ A → ρ.f t = f t

section
variable {P : Prg} {R : Rec} {N : Nat} {rd : Option (Nat × Nat)}

theorem DQ.sub {A B : List Nat} {f : Nat → AV} {kN : KN} {kE : KE} {a : Ans} {e : XExit} {ρ : Env} {σ : St} (h : DQ A f kN kE a e ρ σ) (hs : ∀ t, t ∈ A → t ∈ B) : DQ B f kN kE a e ρ σ := by
  obtain ⟨s, h1, h2, h3⟩ := h
  exact ⟨s, h1, h2, fun t ht => h3 t fun h => ht (hs t h)⟩

/-- The code x is sound. -/
def DenOk (P : Prg) (N : Nat) (rd : Option (Nat × Nat)) (x : XC) (D : Den) : Prop :=
  ∀ f d s kN kE a, D f d s kN kE = some a → AX P N rd x ⟨f, d⟩ s.st (DQ (asg x) f kN kE a)

/-- What is known at a join. -/
theorem join_le {J A : List Nat} {f ρ : Nat → AV} (h : ∀ t, t ∉ A → ρ t = f t) (t : Nat) : joinF J (mskF A f) ρ t = ρ t ∨ joinF J (mskF A f) ρ t = .u := by
  rcases joinF_or J (mskF A f) ρ t with e | e
  · exact .inl e
  · rw [e]
    by_cases ht : t ∈ A
    · exact .inr (mskF_in ht)
    · rw [mskF_out ht]; exact .inl (h t ht).symm

theorem join_keep {J A : List Nat} {f ρ : Nat → AV} (h : ∀ t, t ∉ A → ρ t = f t) {t : Nat} (ht : t ∉ A) : joinF J (mskF A f) ρ t = f t := by
  rcases joinF_or J (mskF A f) ρ t with e | e
  · rw [e]; exact h t ht
  · rw [e]; exact mskF_out ht

theorem seq_some {j : Option (List Nat)} {x y : XC} {D E : Den} (hD : DenOk P N rd x D) (hE : DenOk P N rd y E) : DenOk P N rd (.seq j x y) (dSeq j (asg x) D E) := by
  intro f d s kN kE a h
  cases j with
  | none =>
    refine AX.seq ((hD f d s _ _ a h).mono fun e ρ σ ⟨s', h1, h2, h3⟩ => ?_)
    cases e with
    | normal =>
      simp only [Then]
      subst h1
      refine (hE ρ.f ρ.d s' kN kE a h2).mono fun e' ρ' σ' ⟨s'', k1, k2, k3⟩ => ⟨s'', k1, k2, fun t ht => ?_⟩
      simp only [asg, List.mem_append, not_or] at ht
      rw [k3 t ht.2, h3 t ht.1]
    | exit id => exact ⟨s', h1, h2, fun t ht => h3 t fun hh => ht (by simp [asg, hh])⟩
    | ret => exact ⟨s', h1, h2, fun t ht => h3 t fun hh => ht (by simp [asg, hh])⟩
  | some J =>
    have h : D f d s (app J (cur J (mskF (asg x) f) fun f d s => E f d s kN kE)) kE = some a := h
    refine AX.seq ((hD f d s _ _ a h).mono fun e ρ σ ⟨s', h1, h2, h3⟩ => ?_)
    cases e with
    | normal =>
      simp only [Then]
      subst h1
      simp only [atExit, app_cur] at h2
      have := hE _ _ _ _ _ _ h2
      refine AX.weak (ρ' := ⟨joinF J (mskF (asg x) f) ρ.f, ρ.d⟩) (this.mono fun e' ρ' σ' ⟨s'', k1, k2, k3⟩ => ⟨s'', k1, k2, fun t ht => ?_⟩) rfl (join_le h3)
      simp only [asg, List.mem_append, not_or] at ht
      rw [k3 t ht.2]
      exact join_keep h3 ht.1
    | exit id => exact ⟨s', h1, h2, fun t ht => h3 t fun hh => ht (by simp [asg, hh])⟩
    | ret => exact ⟨s', h1, h2, fun t ht => h3 t fun hh => ht (by simp [asg, hh])⟩

theorem lp_some {L : List Nat} {x : XC} {D : Den} (hD : DenOk P N rd x D) {g : Nat → AV} {kN : KN} {kE : KE} {a : Ans} : ∀ (n : Nat) (f : Nat → AV) (d : List (Nat × Nat)) (s : ES), (∀ t, t ∉ asg x → f t = g t) →
    app L (lp L n fun ih => cur L (mskF (asg x) g) fun f d s => D f d s (app L ih) kE) f d s = some a → ALoop P N rd x ⟨f, d⟩ s.st (DQ (asg x) g kN kE a) := by
  intro n
  induction n with
  | zero =>
    intro f d s _ h
    have h : app L (cur L (fun _ => .u) fun _ _ _ => none) f d s = some a := h
    rw [app_cur] at h
    cases h
  | succ n ih =>
    intro f d s hf h
    have h : app L (cur L (mskF (asg x) g) fun f d s => D f d s (app L (lp L n fun ih => cur L (mskF (asg x) g) fun f d s => D f d s (app L ih) kE)) kE) f d s = some a := h
    rw [app_cur] at h
    have hj : ∀ t, t ∉ asg x → joinF L (mskF (asg x) g) f t = g t := fun t ht => join_keep hf ht
    refine ALoop.of (AX.weak (ρ' := ⟨joinF L (mskF (asg x) g) f, d⟩) ((hD _ d s _ _ a h).mono fun e ρ σ ⟨s', h1, h2, h3⟩ => ?_) rfl (join_le hf))
    have hg : ∀ t, t ∉ asg x → ρ.f t = g t := fun t ht => (h3 t ht).trans (hj t ht)
    cases e with
    | normal =>
      simp only [LoopQ]
      have := ih ρ.f ρ.d s' hg h2
      rw [← h1]
      exact this
    | exit id => exact ⟨s', h1, h2, hg⟩
    | ret => exact ⟨s', h1, h2, hg⟩

theorem eRangeEnd_some {r st : Nat} {f : Nat → AV} {d : List (Nat × Nat)} {s : ES} {kN : KN} {kE : KE} {a : Ans} {A : List Nat} (h : eRangeEnd r st d s (fun d s => kN f d s) (fun e d s => kE e f d s) = some a) : RangeEnd r st ⟨f, d⟩ (DQ A f kN kE a) s.st := by
  unfold eRangeEnd at h
  unfold RangeEnd
  obtain ⟨b, hb, h⟩ := sAt_some h
  rw [hb]
  split at h
  · rename_i st' state pe N' ρl ps xa xb dr ds
    simp only
    have fin : ∀ (e : XExit), (pPut s r none fun s' => atExit kN kE e f d s') = some a → DQ A f kN kE a e ⟨f, d⟩ (s.st.1.set r none, s.st.2) := by
      intro e h
      obtain ⟨s', h1, h2⟩ := pPut_some h
      exact ⟨s', h1, h2, fun _ _ => rfl⟩
    cases state with
    | busy => cases h
    | _ =>
      refine ⟨by simp, ?_⟩
      have h : ePend pe r d s (fun d s => kN f d s) (fun e d s => kE e f d s) = some a := h
      cases pe with
      | none => exact fin .normal h
      | some e => cases e with
        | normal => exact fin .normal h
        | exit id => exact fin (.exit id) h
        | ret => exact fin .ret h
  · cases h

theorem allLt_iff {N : Nat} : ∀ {ps : List Nat}, allLt ps N = true → ∀ p ∈ ps, p < N
  | [], _, p, hp => by cases hp
  | q :: ps, h, p, hp => by
    have h : cond (Nat.ble (Nat.succ q) N) (allLt ps N) false = true := h
    cases hq : Nat.ble (Nat.succ q) N with
    | false => rw [hq] at h; cases h
    | true =>
      rw [hq] at h
      rcases List.mem_cons.1 hp with rfl | hp
      · exact Nat.le_of_ble_eq_true hq
      · exact allLt_iff h p hp

theorem den_ok (hm : P.follows .mixedOrders = true) (hR : RecOk P R) {top : Bool} (htop : top = true → rd = none) : ∀ (x : XC), DenOk P N rd x (den R N top x)
  | .skip => fun f d s kN kE a h => AX.skip ⟨s, rfl, h, fun _ _ => rfl⟩
  | .ops l => fun f d s kN kE a h => AX.ops (XGo_mono (fun ρ σ ⟨s', h1, h2, h3, h4⟩ => ⟨s', h1, by rw [h3]; exact h2, h4⟩) (eOps_some (d := d) hR h))
  | .draw t => fun f d s kN kE a h => AX.draw hm (XTree_mono (fun ρ σ ⟨s', h1, h2, h3, h4⟩ => ⟨s', h1, by rw [h3]; exact h2, h4⟩) (eTree_some (d := d) hR h))
  | .seq j x y => seq_some (den_ok hm hR htop x) (den_ok hm hR htop y)
  | .cond c x y => fun f d s kN kE a h => by
    have h : eCond (c.ev f) (den R N top x f d s kN kE) (den R N top y f d s kN kE) = some a := h
    unfold eCond at h
    split at h
    · rename_i t ht
      refine AX.cond (t := t) ht (fun he => ?_) (fun he => ?_)
      · subst he
        exact (den_ok hm hR htop x f d s kN kE a h).mono fun e ρ σ hq => hq.sub fun t ht => by simp [asg, ht]
      · subst he
        exact (den_ok hm hR htop y f d s kN kE a h).mono fun e ρ σ hq => hq.sub fun t ht => by simp [asg, ht]
    · cases h
  | .block id x => fun f d s kN kE a h => by
    refine AX.block ((den_ok hm hR htop x f d s kN (kBlk id kN kE) a h).mono fun e ρ σ ⟨s', h1, h2, h3⟩ => ?_)
    cases e with
    | normal => exact ⟨s', h1, h2, h3⟩
    | exit i =>
      simp only [InBlk]
      simp only [atExit, kBlk, xsel, beqN] at h2
      by_cases hi : i = id
      · rw [if_pos hi]
        simp only [hi, decide_true, cond_true] at h2
        exact ⟨s', h1, h2, h3⟩
      · rw [if_neg hi]
        simp only [hi, decide_false, cond_false] at h2
        exact ⟨s', h1, h2, h3⟩
    | ret => exact ⟨s', h1, h2, h3⟩
  | .loop L x => fun f d s kN kE a h => AX.loop (lp_some (den_ok hm hR htop x) 30000 f d s (fun _ _ => rfl) h)
  | .range g ps L xa xb => fun f d s kN kE a h => by
    have h : cond top (pRange R.h N (g.ev f) ps (pickF L f) xa xb d s (fun d s => kN f d s) fun e d s => kE e f d s) none = some a := h
    obtain ⟨ht, h⟩ := cond_some h
    have hrd := htop ht
    subst hrd
    unfold pRange at h
    split at h
    · rename_i gf first cap hg
      obtain ⟨hps, h⟩ := cond_some h
      obtain ⟨s1, hs1, h⟩ := pPush_some h
      obtain ⟨s2, hs2, h⟩ := pPush_some h
      obtain ⟨v, s3, hc, h⟩ := callK_some h
      rw [hs1] at hs2 hc h
      have hlen : (s.st.1 ++ [some (Blk.dfr s.st.2)]).length = s.st.1.length + 1 := by simp
      rw [hlen] at hc h
      simp only at hs2 hc h
      refine AX.range hg (allLt_iff hps) ?_
      have hcall := hR.h _ _ _ _ _ hc
      rw [hs2] at hcall
      refine hcall.mono fun v σ' ⟨h1, h2⟩ => ?_
      rw [h2]
      exact eRangeEnd_some h
    · cases h
  | .exit id => fun f d s kN kE a h => AX.exit ⟨s, rfl, h, fun _ _ => rfl⟩
  | .ret => fun f d s kN kE a h => AX.ret ⟨s, rfl, h, fun _ _ => rfl⟩
  | .tag t x => fun f d s kN kE a h => by cases h
  | .bad => fun f d s kN kE a h => by cases h

/-! ### Functions -/

/-- The blocks of the rounds' deferred calls are shut. -/
noncomputable def eLeave (d : List (Nat × Nat)) (s : ES) (k : ES → Res) : Res :=
  List.rec (motive := fun _ => ES → Res) (fun s => k s) (fun p _ ih s => sAt s p.1 p.2 fun b => (match b with | .dfr _ => pPut s p.1 none ih | _ => none)) d s

noncomputable abbrev eRes (s : ES) (f : Nat → AV) (rs : List XR) (k : List AV → Res) : Res :=
  List.rec (motive := fun _ => (List AV → Res) → Res) (fun k => k []) (fun r _ ih k => XR.rec (motive := fun _ => Res) (fun n => ih fun vs => k (f n :: vs)) (fun a g n => pLoad s g n (f a) fun v => ih fun vs => k (v :: vs)) r) rs k

noncomputable abbrev finR (vs : List AV) (s : ES) : Res :=
  match vs with
  | [v] => some (.ret v s)
  | l => some (.ret (.tup l) s)

noncomputable abbrev eFin (rs : List XR) (f : Nat → AV) (d : List (Nat × Nat)) (s : ES) : Res := eLeave d s fun s' => eRes s' f rs fun vs => finR vs s'

def xfin (e : XExit) (r : Res) : Res :=
  match e with
  | .ret => r
  | _ => none

noncomputable abbrev eFinE (rs : List XR) (e : XExit) (f : Nat → AV) (d : List (Nat × Nat)) (s : ES) : Res := xfin e (eFin rs f d s)

theorem finR_eq (vs : List AV) (s : ES) : finR vs s = some (.ret (oneOrTup vs) s) := by
  rcases vs with _ | ⟨v, _ | ⟨w, l⟩⟩ <;> rfl

theorem eRes_some {s : ES} {f : Nat → AV} {a : Ans} : ∀ {rs : List XR} {k : List AV → Res}, eRes s f rs k = some a → ∃ vs, evRs s.st.1 f rs = some vs ∧ k vs = some a
  | [], k, h => ⟨[], rfl, h⟩
  | .t n :: xs, k, h => by
    have h : eRes s f xs (fun vs => k (f n :: vs)) = some a := h
    obtain ⟨vs, h1, h2⟩ := eRes_some h
    exact ⟨_, by simp only [evRs, XR.ev, h1]; rfl, h2⟩
  | .c p g n :: xs, k, h => by
    have h : (pLoad s g n (f p) fun v => eRes s f xs fun vs => k (v :: vs)) = some a := h
    have e : (pLoad s g n (f p) fun v => eRes s f xs fun vs => k (v :: vs)) = pop s f (.load g n (.t p)) fun v => eRes s f xs fun vs => k (v :: vs) := rfl
    rw [e, pop_eq] at h
    obtain ⟨v, h1, h⟩ := kont_some h
    obtain ⟨vs, h2, h3⟩ := eRes_some h
    exact ⟨_, by simp only [evRs, XR.ev, h1, h2]; rfl, h3⟩

theorem eLeave_some {k : ES → Res} {a : Ans} : ∀ {d : List (Nat × Nat)} {s : ES}, eLeave d s k = some a → ∃ σ' s', leave s.st.1 d = some σ' ∧ s'.st = (σ', s.st.2) ∧ k s' = some a
  | [], s, h => ⟨_, s, rfl, rfl, h⟩
  | (r, st) :: d, s, h => by
    have h : (sAt s r st fun b => (match b with | .dfr _ => pPut s r none (fun s => eLeave d s k) | _ => none)) = some a := h
    simp only [leave]
    obtain ⟨b, hb, h⟩ := sAt_some h
    rw [hb]
    split at h
    · obtain ⟨s1, h1, h2⟩ := pPut_some h
      obtain ⟨σ', s', k1, k2, k3⟩ := eLeave_some h2
      rw [h1] at k1 k2
      exact ⟨σ', s', k1, k2, k3⟩
    · cases h

def finP (l : Option Store) (g : Store → Option (List AV)) (K : List AV → Store → Prop) : Prop :=
  match l with
  | some σ' => (match g σ' with
    | some l => K l σ'
    | none => False)
  | none => False

theorem eFin_some {rs : List XR} {f : Nat → AV} {d : List (Nat × Nat)} {s : ES} {a : Ans} (h : eFin rs f d s = some a) :
    ∃ v s', a = .ret v s' ∧ finP (leave s.st.1 d) (fun σ' => evRs σ' f rs) fun l σ' => (oneOrTup l = v ∧ (σ', s.st.2) = s'.st) := by
  unfold eFin at h
  obtain ⟨σ', s', h1, h2, h3⟩ := eLeave_some h
  obtain ⟨vs, h4, h5⟩ := eRes_some h3
  rw [finR_eq] at h5
  cases h5
  refine ⟨_, s', rfl, ?_⟩
  rw [h2] at h4
  simp only [finP, h1, h4]
  exact ⟨trivial, h2.symm⟩

/-! ### Entries -/

def CurV (A : List Nat) : Type := List.rec (motive := fun _ => Type) Res (fun _ _ ih => AV → ih) A
noncomputable abbrev curV (A : List Nat) (g : Nat → AV) (F : (Nat → AV) → Res) : CurV A :=
  List.rec (motive := fun A => (Nat → AV) → CurV A) (fun g => F g) (fun a _ ih g => fun v => ih (updB g a v)) A g
noncomputable def argsK (A : List Nat) (args : List AV) (C : CurV A) : Res :=
  List.rec (motive := fun A => List AV → CurV A → Res) (fun as C => List.casesOn as C fun _ _ => none) (fun _ _ ih as C => List.casesOn as none fun a t => ih t (C a)) A args C

noncomputable def whV (v : AV) (k : KP) : Res :=
  match v with
  | .u => k .u | .b x => k (.b x) | .i kd n => k (.i kd n) | .s l => k (.s l) | .p r st kk i o => k (.p r st kk i o) | .pe cs kk i o => k (.pe cs kk i o) | .np => k .np
  | .sl kk n cs => k (.sl kk n cs) | .ns => k .ns | .sz => k .sz | .gr r st i n kk => k (.gr r st i n kk) | .m r st => k (.m r st) | .nm => k .nm | .it r st => k (.it r st)
  | .fn f a b => k (.fn f a b) | .fy r st => k (.fy r st) | .nf => k .nf | .ifc t v => k (.ifc t v) | .ni => k .ni | .agg l => k (.agg l) | .tup l => k (.tup l)
theorem whV_eq (v : AV) (k : KP) : whV v k = k v := by cases v <;> rfl

noncomputable def tmpsK (A : List Nat) (f : Nat → AV) (C : CurV A) : Res :=
  List.rec (motive := fun A => CurV A → Res) (fun C => C) (fun a _ ih C => whV (f a) fun v => ih (C v)) A C

def putL (A : List Nat) (g : Nat → AV) (as : List AV) : Nat → AV :=
  match A, as with
  | a :: A, v :: as => putL A (updB g a v) as
  | _, _ => g

theorem argsK_some {a : Ans} {F : (Nat → AV) → Res} : ∀ {A : List Nat} {args : List AV} {g : Nat → AV}, argsK A args (curV A g F) = some a → args.length = A.length ∧ F (putL A g args) = some a
  | [], [], g, h => ⟨rfl, h⟩
  | [], _ :: _, g, h => by cases h
  | x :: A, [], g, h => by cases h
  | x :: A, v :: as, g, h => by
    have h : argsK A as (curV A (updB g x v) F) = some a := h
    obtain ⟨h1, h2⟩ := argsK_some h
    exact ⟨by simp [h1], h2⟩

theorem tmpsK_eq {F : (Nat → AV) → Res} {f : Nat → AV} : ∀ {A : List Nat} {g : Nat → AV}, tmpsK A f (curV A g F) = F (joinF A g f)
  | [], g => rfl
  | x :: A, g => by
    have : tmpsK (x :: A) f (curV (x :: A) g F) = whV (f x) fun v => tmpsK A f (curV A (updB g x v) F) := rfl
    rw [this, whV_eq, tmpsK_eq]; rfl

theorem putL_range : ∀ (n k : Nat) (as : List AV) (g : Nat → AV), as.length = n → ∀ t, putL (List.range' k n) g as t = if k ≤ t ∧ t < k + n then as.getD (t - k) (.tup []) else g t
  | 0, k, as, g, h, t => by
    have : as = [] := List.eq_nil_of_length_eq_zero h
    subst this
    simp only [List.range'_zero, putL]
    rw [if_neg (by omega)]
  | n + 1, k, [], g, h, t => by cases h
  | n + 1, k, v :: as, g, h, t => by
    simp only [List.range'_succ, putL]
    rw [putL_range n (k + 1) as _ (by simpa using h) t]
    by_cases h1 : k + 1 ≤ t ∧ t < k + 1 + n
    · rw [if_pos h1, if_pos (by omega)]
      have : t - k = (t - (k + 1)) + 1 := by omega
      rw [this]; simp
    · rw [if_neg h1]
      unfold updB
      rw [beqN]
      by_cases h2 : t = k
      · subst h2
        simp
      · simp only [h2, decide_false, cond_false]
        rw [if_neg (by omega)]

theorem putL_args {as : List AV} {A : List Nat} (h : as.length = A.length) (hA : A = List.range' 0 A.length) : putL A (fun _ => .tup []) as = argEnv as := by
  funext t
  rw [hA, putL_range A.length 0 as _ h t]
  unfold argEnv
  by_cases ht : t < A.length
  · rw [if_pos (by omega)]; rfl
  · rw [if_neg (by omega)]
    rw [List.getD_eq_getElem?_getD, List.getElem?_eq_none (by omega)]
    rfl

noncomputable def eEnt (R : Rec) (n : Nat) (x : XC) (rs : List XR) (A : List Nat) (args : List AV) (s : ES) : Res :=
  argsK A args (curV A (fun _ => .tup []) fun f => den R n true x f [] s (eFin rs) (eFinE rs))

/-- What the evaluator knows of a function: it is sound. -/
abbrev Fun := Rec → List AV → ES → Res
def SOk (P : Prg) (g : FuncId) (b : Fun) : Prop := ∀ R, RecOk P R → ∀ args s v s', b R args s = some (.ret v s') → ACall P g args s.st fun v' σ' => v' = v ∧ σ' = s'.st
abbrev Ext1 := List AV → ES → Res
def EOkX (P : Prg) (g : FuncId) (b : Ext1) : Prop := ∀ args s v s', b args s = some (.ret v s') → AExt P g args s.st fun v' σ' => v' = v ∧ σ' = s'.st

theorem eEnt_ok (hm : P.follows .mixedOrders = true) (hR : RecOk P R) {g : FuncId} {n : Nat} {x : XC} {rs : List XR} {A : List Nat} (hf : FunOk P g x rs n) (hA : A = List.range' 0 A.length) (hn : A.length ≤ n) {args : List AV} {s : ES} {v : AV} {s' : ES}
    (h : eEnt R n x rs A args s = some (.ret v s')) : ACall P g args s.st fun v' σ' => v' = v ∧ σ' = s'.st := by
  obtain ⟨h1, h2⟩ := argsK_some h
  rw [putL_args h1 hA] at h2
  refine ACall.of hf (by omega) ((den_ok hm hR (fun _ => rfl) x _ _ _ _ _ _ h2).mono fun e ρ σ ⟨s1, h1, h2, _⟩ => ?_)
  subst h1
  have fin : eFin rs ρ.f ρ.d s1 = some (.ret v s') → finP (leave s1.st.1 ρ.d) (fun σ' => evRs σ' ρ.f rs) fun l σ' => (oneOrTup l = v ∧ (σ', s1.st.2) = s'.st) := by
    intro h
    obtain ⟨v', s'', e1, e2⟩ := eFin_some h
    cases e1
    exact e2
  have bq : ∀ e, e = .normal ∨ e = .ret → finP (leave s1.st.1 ρ.d) (fun σ' => evRs σ' ρ.f rs) (fun l σ' => (oneOrTup l = v ∧ (σ', s1.st.2) = s'.st)) → BodyQ rs (fun v' σ' => v' = v ∧ σ' = s'.st) e ρ s1.st := by
    intro e he h
    unfold finP at h
    have : (match leave s1.st.1 ρ.d with
        | some σ' => (match evRs σ' ρ.f rs with
          | some l => oneOrTup l = v ∧ (σ', s1.st.2) = s'.st
          | none => False)
        | none => False) := h
    rcases he with rfl | rfl <;> exact this
  cases e with
  | normal => exact bq _ (.inl rfl) (fin h2)
  | ret => exact bq _ (.inr rfl) (fin h2)
  | exit id => cases h2

/-- A function by its body: Rk answers calls. -/
theorem SOk.of (hm : P.follows .mixedOrders = true) {g : FuncId} {n : Nat} {x : XC} {rs : List XR} {A : List Nat} {b : Fun} {Rk : Rec → Rec} (hf : FunOk P g x rs n) (hA : A = List.range' 0 A.length) (hn : A.length ≤ n)
    (hR : ∀ R, RecOk P R → RecOk P (Rk R)) (hb : b = fun R args s => eEnt (Rk R) n x rs A args s) : SOk P g b := by
  intro R hRR args s v s' h
  rw [hb] at h
  exact eEnt_ok hm (hR R hRR) hf hA hn h

/-! ### Pieces of code under a name -/

noncomputable abbrev bodyN (L : List Nat) (f : Nat → AV) (d : List (Nat × Nat)) (s : ES) : Res := List.casesOn d (some (.ex .normal (pickF L f) s)) fun _ _ => none
noncomputable abbrev bodyE (L : List Nat) (e : XExit) (f : Nat → AV) (d : List (Nat × Nat)) (s : ES) : Res := List.casesOn d (some (.ex e (pickF L f) s)) fun _ _ => none

noncomputable def eBod (R : Rec) (N : Nat) (x : XC) (A L : List Nat) (f : Nat → AV) (s : ES) : Res :=
  tmpsK A f (curV A (fun _ => .u) fun f => den R N false x f [] s (bodyN L) (bodyE L))

abbrev Cod := Rec → (Nat → AV) → ES → Res
def COk (P : Prg) (t N : Nat) (b : Cod) : Prop := ∀ x, P.rng t = some (N, x) → ∀ R, RecOk P R → ∀ f s e f' s', b R f s = some (.ex e f' s') → ∀ rd, AX P N rd x ⟨f, []⟩ s.st fun e' ρ' σ' => e' = e ∧ ρ'.d = [] ∧ (∀ t, f' t = ρ'.f t ∨ f' t = .u) ∧ σ' = s'.st

theorem COk.of (hm : P.follows .mixedOrders = true) {t N : Nat} {x : XC} {A L : List Nat} {b : Cod} {Rk : Rec → Rec} (hx : P.rng t = some (N, x)) (hR : ∀ R, RecOk P R → RecOk P (Rk R)) (hb : b = fun R f s => eBod (Rk R) N x A L f s) : COk P t N b := by
  intro x' hx' R hRR f s e f' s' h rd
  rw [hx] at hx'
  cases hx'
  rw [hb] at h
  have h : tmpsK A f (curV A (fun _ => .u) fun f => den (Rk R) N false x f [] s (bodyN L) (bodyE L)) = some (.ex e f' s') := h
  rw [tmpsK_eq] at h
  refine AX.weak (ρ' := ⟨joinF A (fun _ => .u) f, []⟩) ?_ rfl (fun t => joinF_or A _ f t)
  refine (den_ok (rd := rd) hm (hR R hRR) (top := false) (fun h => by cases h) x _ _ _ _ _ _ h).mono fun e1 ρ σ ⟨s1, h1, h2, _⟩ => ?_
  have : bodyE L e1 ρ.f ρ.d s1 = some (.ex e f' s') := by cases e1 <;> exact h2
  unfold bodyE at this
  cases hd : ρ.d with
  | nil =>
    rw [hd] at this
    cases this
    exact ⟨rfl, rfl, fun t => pickF_eq L ρ.f t, h1.symm⟩
  | cons p l => rw [hd] at this; cases this

/-! ### Tables -/

inductive Ent where
  | fn (b : Fun)
  | ext (b : Ext1)

inductive Tab where
  | e
  | n (g : FuncId) (x : Ent) (a b : Tab)

noncomputable def Tab.find (t : Tab) (g : FuncId) (k : Ent → Res) : Res :=
  Tab.rec (motive := fun _ => Res) none (fun h x _ _ ia ib => cond (Nat.beq g h) (k x) (cond (Nat.ble g h) ia ib)) t

def EntOk (P : Prg) (g : FuncId) : Ent → Prop
  | .fn b => SOk P g b
  | .ext b => EOkX P g b

def TabOk (P : Prg) : Tab → Prop
  | .e => True
  | .n g x a b => EntOk P g x ∧ TabOk P a ∧ TabOk P b

inductive TTab where
  | e
  | n (t N : Nat) (x : Cod) (a b : TTab)

noncomputable def TTab.find (t : TTab) (g : Nat) (k : Nat → Cod → Res) : Res :=
  TTab.rec (motive := fun _ => Res) none (fun h N x _ _ ia ib => cond (Nat.beq g h) (k N x) (cond (Nat.ble g h) ia ib)) t

def TTabOk (P : Prg) : TTab → Prop
  | .e => True
  | .n t N x a b => COk P t N x ∧ TTabOk P a ∧ TTabOk P b

noncomputable def entF (R : Rec) (args : List AV) (s : ES) (e : Ent) : Res :=
  match e with
  | .fn b => b R args s
  | .ext b => b args s
noncomputable def entH (R : Rec) (args : List AV) (s : ES) (e : Ent) : Res :=
  match e with
  | .fn b => b R args s
  | .ext _ => none
noncomputable def tagB (T : TTab) (R : Rec) (N : Nat) (x : XC) (f : Nat → AV) (s : ES) : Res :=
  match x with
  | .tag t _ => T.find t fun N' c => cond (Nat.beq N N') (c R f s) none
  | _ => none

noncomputable def run (T : Tab) (U : TTab) (n : Nat) : Rec :=
  Nat.rec (motive := fun _ => Rec) ⟨fun _ _ _ => none, fun _ _ _ => none, fun _ _ _ => none, fun _ _ _ _ => none⟩
    (fun _ ih => ⟨fun g args s => T.find g fun e => entF ih args s e, fun g args s => T.find g fun e => entF ih args s e, fun g args s => T.find g fun e => entH ih args s e, fun N x f s => tagB U ih N x f s⟩) n

theorem Tab.find_some {g : FuncId} {k : Ent → Res} {a : Ans} : ∀ {T : Tab}, TabOk P T → T.find g k = some a → ∃ e, EntOk P g e ∧ k e = some a
  | .e, _, h => by cases h
  | .n h x a b, ⟨h1, h2, h3⟩, hh => by
    have hh : cond (Nat.beq g h) (k x) (cond (Nat.ble g h) (a.find g k) (b.find g k)) = some _ := hh
    cases hc : Nat.beq g h with
    | true =>
      rw [hc] at hh
      have : g = h := Nat.eq_of_beq_eq_true hc
      subst this
      exact ⟨x, h1, hh⟩
    | false =>
      rw [hc] at hh
      cases hl : Nat.ble g h with
      | true => rw [hl] at hh; exact Tab.find_some h2 hh
      | false => rw [hl] at hh; exact Tab.find_some h3 hh

theorem TTab.find_some {g : Nat} {k : Nat → Cod → Res} {a : Ans} : ∀ {T : TTab}, TTabOk P T → T.find g k = some a → ∃ N c, COk P g N c ∧ k N c = some a
  | .e, _, h => by cases h
  | .n h N x a b, ⟨h1, h2, h3⟩, hh => by
    have hh : cond (Nat.beq g h) (k N x) (cond (Nat.ble g h) (a.find g k) (b.find g k)) = some _ := hh
    cases hc : Nat.beq g h with
    | true =>
      rw [hc] at hh
      have : g = h := Nat.eq_of_beq_eq_true hc
      subst this
      exact ⟨N, x, h1, hh⟩
    | false =>
      rw [hc] at hh
      cases hl : Nat.ble g h with
      | true => rw [hl] at hh; exact TTab.find_some h2 hh
      | false => rw [hl] at hh; exact TTab.find_some h3 hh

theorem run_ok {T : Tab} {U : TTab} (hT : TabOk P T) (hU : TTabOk P U) : ∀ n, RecOk P (run T U n)
  | 0 => ⟨fun _ _ _ _ _ h => (by cases h), fun _ _ _ _ _ h => (by cases h), fun _ _ _ _ _ h => (by cases h), fun _ _ _ _ _ _ _ _ h => (by cases h)⟩
  | n + 1 => by
    have ih := run_ok hT hU n
    have ff : ∀ g args s v s', (T.find g fun e => entF (run T U n) args s e) = some (.ret v s') → (ACall P g args s.st fun v' σ' => v' = v ∧ σ' = s'.st) ∨ (AExt P g args s.st fun v' σ' => v' = v ∧ σ' = s'.st) := ?_
    refine ⟨ff, ff, fun g args s v s' h => ?_, fun N x f s e f' s' hx h rd => ?_⟩
    rotate_left 2
    · intro g args s v s' h
      obtain ⟨en, he, hk⟩ := Tab.find_some hT h
      cases en with
      | fn b => exact .inl (he _ ih args s v s' hk)
      | ext b => exact .inr (he args s v s' hk)
    · obtain ⟨en, he, hk⟩ := Tab.find_some hT h
      cases en with
      | fn b => exact he _ ih args s v s' hk
      | ext b => cases hk
    · have h : tagB U (run T U n) N x f s = some (.ex e f' s') := h
      unfold tagB at h
      split at h
      · obtain ⟨N', c, hc, hk⟩ := TTab.find_some hU h
        obtain ⟨hN, hk2⟩ := cond_some hk
        have hN := Nat.eq_of_beq_eq_true hN
        subst hN
        exact hc _ hx.1 _ ih f s e f' s' hk2 rd
      · cases h

/-! ### Calls that are known -/

/-- The answers, and first of all those of functions that are known. -/
noncomputable def withF (g : FuncId) (b : Fun) (R R' : Rec) : Rec :=
  ⟨fun g' args s => cond (Nat.beq g' g) (b R args s) (R'.f g' args s), R'.g, R'.h, R'.b⟩
noncomputable def withX (g : FuncId) (b : Ext1) (R' : Rec) : Rec :=
  ⟨fun g' args s => cond (Nat.beq g' g) (b args s) (R'.f g' args s), R'.g, R'.h, R'.b⟩

theorem withF_ok {g : FuncId} {b : Fun} {R R' : Rec} (hb : SOk P g b) (hR : RecOk P R) (hR' : RecOk P R') : RecOk P (withF g b R R') := by
  refine ⟨fun g' args s v s' h => ?_, hR'.g, hR'.h, hR'.b⟩
  have h : cond (Nat.beq g' g) (b R args s) (R'.f g' args s) = some (.ret v s') := h
  cases hc : Nat.beq g' g with
  | true =>
    rw [hc] at h
    rw [Nat.eq_of_beq_eq_true hc]
    exact .inl (hb R hR args s v s' h)
  | false => rw [hc] at h; exact hR'.f _ _ _ _ _ h

theorem withX_ok {g : FuncId} {b : Ext1} {R' : Rec} (hb : EOkX P g b) (hR' : RecOk P R') : RecOk P (withX g b R') := by
  refine ⟨fun g' args s v s' h => ?_, hR'.g, hR'.h, hR'.b⟩
  have h : cond (Nat.beq g' g) (b args s) (R'.f g' args s) = some (.ret v s') := h
  cases hc : Nat.beq g' g with
  | true =>
    rw [hc] at h
    rw [Nat.eq_of_beq_eq_true hc]
    exact .inr (hb args s v s' h)
  | false => rw [hc] at h; exact hR'.f _ _ _ _ _ h

end
end Hb
end

section
set_option linter.unusedVariables false
set_option linter.unusedSimpArgs false
set_option linter.constructorNameAsVariable false
set_option autoImplicit false
set_option linter.unusedSimpArgs false
set_option linter.unusedVariables false
set_option linter.constructorNameAsVariable false
namespace Hb
open Go

/-! ## Functions without a body -/

/-- The model answers function f by e. -/
def ExtIs (P : Prg) (f : FuncId) (e : Array Value → Sem Value) : Prop :=
  ∃ fn, P.funcs[f]? = some fn ∧ (fn.name == "runtime.NumGoroutine") = false ∧ fn.body.isNone = true ∧ Extern.findNext fn = none ∧ Extern.find fn = some e

theorem AExt.pure {P : Prg} {f : FuncId} {e : Array Value → Sem Value} {args : List AV} {σ : St} {v : AV} (hf : ExtIs P f e)
    (h : ∀ (c : Cx) (vs : List Value), RepL c args vs → ∃ u, (e vs.toArray).run P c.w = .ok u c.w ∧ RepV c v u) : AExt P f args σ fun v' σ' => v' = v ∧ σ' = σ := by
  intro c vs hσ hs hr
  obtain ⟨fn, h1, h2, h3, h4, h5⟩ := hf
  obtain ⟨u, hu1, hu2⟩ := h c vs hr
  refine ⟨c, u, v, ?_, hs, Ext.refl c, hu2, rfl, hσ⟩
  rw [run_callFunc_extern h1 h2 h3 h4 h5, hu1]
  rfl

/-- Where a byte stands first. -/
def fidx : List Nat → Nat → Nat → Option Nat
  | [], _, _ => none
  | a :: l, m, i => if a = m then some i else fidx l m (i + 1)

noncomputable def fidxK (l : List Nat) (m : Nat) (k : KP) : Res :=
  List.rec (motive := fun _ => Nat → Res) (fun _ => k (.i .i64 (.negSucc 0))) (fun a _ ih i => cond (Nat.beq a m) (frcN i fun i => k (.i .i64 (.ofNat i))) (ih (Nat.add i 1))) l 0

theorem fidxK_eq (l : List Nat) (m : Nat) (k : KP) : fidxK l m k = k (.i .i64 (match fidx l m 0 with | some i => (i : Int) | none => -1)) := by
  have : ∀ (l : List Nat) (i : Nat), (List.rec (motive := fun _ => Nat → Res) (fun _ => k (.i .i64 (.negSucc 0))) (fun a _ ih i => cond (Nat.beq a m) (frcN i fun i => k (.i .i64 (.ofNat i))) (ih (Nat.add i 1))) l : Nat → Res) i =
      k (.i .i64 (match fidx l m i with | some i => (i : Int) | none => -1)) := by
    intro l
    induction l with
    | nil => intro i; rfl
    | cons a l ih =>
      intro i
      show cond (Nat.beq a m) (frcN i fun i => k (.i .i64 (.ofNat i))) _ = _
      rw [beqN, frcN_eq, ih]
      simp only [fidx]
      by_cases h : a = m
      · simp [h]
      · simp only [h, decide_false, cond_false, if_false]
  exact this l 0

theorem fidx_range (m : Nat) : ∀ (l : List Nat) (i : Nat) (p : Nat → Bool), (∀ j, j < l.length → p (i + j) = (l[j]? == some m)) → (List.range' i l.length).find? p = fidx l m i
  | [], i, p, h => rfl
  | a :: l, i, p, h => by
    simp only [List.length_cons, List.range'_succ, List.find?_cons, fidx]
    have h0 := h 0 (by simp)
    simp only [Nat.add_zero, List.getElem?_cons_zero] at h0
    rw [h0]
    by_cases e : a = m
    · simp [e]
    · have : (some a == some m) = false := by simpa using e
      simp only [this, e, if_false]
      refine fidx_range m l (i + 1) p fun j hj => ?_
      have := h (j + 1) (by simpa using hj)
      simp only [List.getElem?_cons_succ] at this
      rw [← this]
      congr 1
      omega

noncomputable def xIndexByte (args : List AV) (s : ES) : Res :=
  match args with
  | [.s l, .i .u8 (.ofNat m)] => cond (Nat.ble m 255) (fidxK l m fun v => some (.ret v s)) none
  | _ => none

theorem xIndexByte_ok {P : Prg} {f : FuncId} (hf : ExtIs P f Extern.BytealgIndexByte.indexByte) : EOkX P f xIndexByte := by
  intro args s v s' h
  unfold xIndexByte at h
  split at h
  · rename_i l m
    obtain ⟨hm, h⟩ := cond_some h
    have hm : m < 256 := by have := Nat.le_of_ble_eq_true hm; omega
    rw [fidxK_eq] at h
    cases h
    refine AExt.pure hf fun cx vs hr => ?_
    simp only [RepL, RepV] at hr
    obtain ⟨y, ys, rfl, ⟨rfl, hl⟩, y2, ys2, rfl, rfl, rfl⟩ := hr
    refine ⟨_, run_indexByte_string _ _ _, ?_⟩
    simp only [RepV]
    congr 1
    unfold firstIdx
    rw [bs_size, List.range_eq_range', fidx_range m l 0]
    · rfl
    · intro j hj
      have hj' : j < (bs l).size := by rw [bs_size]; exact hj
      rw [Nat.zero_add, getElem!_pos (bs l) j hj', List.getElem?_eq_getElem hj]
      have e1 : (bs l)[j] = UInt8.ofNat l[j] := by
        show (l.map UInt8.ofNat).toArray[j]'(by simpa using hj) = _
        rw [List.getElem_toArray, List.getElem_map]
      rw [e1, Bool.eq_iff_iff, beq_iff_eq, beq_iff_eq, Option.some.injEq]
      have e2 : (Int.ofNat m).toNat.toUInt8 = UInt8.ofNat m := rfl
      rw [e2]
      exact ofNat_inj (hl _ (List.getElem_mem hj)) hm
  · cases h

noncomputable def cntR (l : List Nat) (m : Nat) : Nat := List.rec (motive := fun _ => Nat) 0 (fun a _ ih => cond (Nat.beq a m) (Nat.add ih 1) ih) l

theorem cntR_eq {m : Nat} (hm : m < 256) : ∀ {l : List Nat}, (∀ x ∈ l, x < 256) → cntR l m = (l.map UInt8.ofNat).count (UInt8.ofNat m)
  | [], _ => rfl
  | a :: l, h => by
    have : cntR (a :: l) m = cond (Nat.beq a m) (Nat.add (cntR l m) 1) (cntR l m) := rfl
    rw [this, cntR_eq hm (fun x hx => h x (by simp [hx])), beqN, List.map_cons, List.count_cons]
    have e : (UInt8.ofNat a == UInt8.ofNat m) = decide (a = m) := by
      rw [Bool.eq_iff_iff, beq_iff_eq, decide_eq_true_eq]
      exact ofNat_inj (h a (by simp)) hm
    rw [e]
    by_cases ha : a = m <;> simp [ha]

noncomputable def xCount (args : List AV) (s : ES) : Res :=
  match args with
  | [.s l, .i .u8 (.ofNat m)] => cond (Nat.ble m 255) (frcN (cntR l m) fun n => some (.ret (.i .i64 (.ofNat n)) s)) none
  | _ => none

theorem xCount_ok {P : Prg} {f : FuncId} (hf : ExtIs P f Extern.BytealgCount.count) : EOkX P f xCount := by
  intro args s v s' h
  unfold xCount at h
  split at h
  · rename_i l m
    obtain ⟨hm, h⟩ := cond_some h
    have hm : m < 256 := by have := Nat.le_of_ble_eq_true hm; omega
    rw [frcN_eq] at h
    cases h
    refine AExt.pure hf fun cx vs hr => ?_
    simp only [RepL, RepV] at hr
    obtain ⟨y, ys, rfl, ⟨rfl, hl⟩, y2, ys2, rfl, rfl, rfl⟩ := hr
    refine ⟨_, Lib.run_countString _ _ _, ?_⟩
    simp only [RepV]
    congr 1
    rw [cntR_eq hm hl]
    rfl
  · cases h

end Hb
end

section
set_option linter.unusedVariables false
set_option linter.unusedSimpArgs false
set_option linter.constructorNameAsVariable false
set_option autoImplicit false
namespace Hb
open Go

/-! ## For printed texts -/

def allOk (P : Prg) (N : Nat) : List (Nat × XC) → Prop
  | [] => True
  | p :: l => P.rng p.1 = some (N, p.2) ∧ allOk P N l

theorem allOk_mem {P : Prg} {N : Nat} : ∀ {l : List (Nat × XC)}, allOk P N l → ∀ p ∈ l, P.rng p.1 = some (N, p.2)
  | q :: l, h, p, hp => by
    rcases List.mem_cons.1 hp with rfl | hp
    · exact h.1
    · exact allOk_mem h.2 p hp

theorem XOk.of' {P : Prg} {N : Nat} {x : XC} (l : List (Nat × XC)) (h : tagsOf x = l) (k : allOk P N l) : XOk P N x := XOk.of (by rw [h]; exact allOk_mem k)

noncomputable def envL (l : List (Nat × AV)) : Nat → AV := List.rec (motive := fun _ => Nat → AV) (fun _ => .u) (fun p _ ih n => cond (Nat.beq n p.1) p.2 (ih n)) l

inductive RT where
  | e
  | n (t N : Nat) (x : XC) (a b : RT)

def RT.find : RT → Nat → Option (Nat × XC)
  | .e, _ => none
  | .n t N x a b, k => cond (Nat.beq k t) (some (N, x)) (cond (Nat.ble k t) (a.find k) (b.find k))

inductive GT where
  | e
  | n (g : Nat) (x : List AV) (a b : GT)

def GT.find : GT → Nat → Option (List AV)
  | .e, _ => none
  | .n t x a b, k => cond (Nat.beq k t) (some x) (cond (Nat.ble k t) (a.find k) (b.find k))

end Hb
end

section
set_option linter.unusedVariables false
set_option linter.unusedSimpArgs false
set_option linter.constructorNameAsVariable false
set_option autoImplicit false
set_option linter.unusedVariables false
namespace Hb
open Go

/-! ## Answers without references -/

theorem ACall.forget {P : Prg} {g : FuncId} {args : List AV} {σ : St} {x : Bool} {N : Nat} (h : ACall P g args σ fun v' σ' => v' = .b x ∧ σ'.2 ≤ N) :
    ACall P g args σ fun v' σ' => v' = .b x ∧ σ' = ([], N) :=
  ⟨h.1, fun c vs h1 h2 h3 => let ⟨k1, k2⟩ := h.2 c vs h1 h2 h3
    ⟨k1, fun cs hr => by
      obtain ⟨e, w', fr, ⟨c', v, av, a1, a2, a3, a4, a5, a6, a7⟩, r2, r3⟩ := k2 cs hr
      subst a6
      have hl : Less [] c'.σ := fun r b hb => by simp at hb
      have e1 := a4.trans (Ext.less hl)
      have s1 := a3.less hl
      have e0 : Ext0 c' { c' with σ := [], nx := N } := ⟨fun _ _ => rfl, fun r blk' hr => (by simp at hr), a7, fun b arr T fz hb => ⟨arr, fz, hb, rfl⟩, rfl⟩
      exact ⟨e, w', fr, ⟨{ c' with σ := [], nx := N }, v, .b x, a1, a2, ⟨fun r b hb => (by simp at hb), fun r r' b b' hb => (by simp at hb), fun r b hb => (by simp at hb), s1.n0, fun g cs hg => (let ⟨p1, p2⟩ := a3.glob g cs hg; ⟨p1, RepAt.mono0 e0 _ _ _ (fun _ => p1) p2⟩)⟩,
        ⟨e1.keep, e1.own, e1.size, e1.live, Nat.le_trans a4.nx a7, e1.sz, e1.os, e1.tape, e1.output, e1.n0, e1.keep0⟩, a5, rfl, rfl⟩, r2, r3⟩⟩⟩

noncomputable def isBool (x : Bool) (N : Nat) (r : Res) : Bool :=
  match r with
  | some (.ret v s) => (match v with | .b y => cond (x == y) (Nat.ble s.nx N) false | _ => false)
  | _ => false

theorem isBool_some {x : Bool} {N : Nat} {r : Res} (h : isBool x N r = true) : ∃ s, r = some (.ret (.b x) s) ∧ s.nx ≤ N := by
  unfold isBool at h
  split at h
  · rename_i v s
    split at h
    · rename_i y
      cases hx : (x == y) with
      | true =>
        rw [hx] at h
        have : x = y := by simpa using hx
        subst this
        exact ⟨s, rfl, Nat.le_of_ble_eq_true h⟩
      | false => rw [hx] at h; cases h
    · cases h
  · cases h

/-- What is known of a call without arguments, begun with nothing. -/
noncomputable def knownF (x : Bool) (N : Nat) : Fun := fun R args s =>
  match args with
  | [] => (match s with
    | ⟨t, n, m⟩ => cond (Nat.beq n 0) (cond (Nat.beq m 0) (some (.ret (.b x) ⟨.e, 0, N⟩)) none) none)
  | _ => none

theorem knownF_ok {P : Prg} {g : FuncId} {x : Bool} {N : Nat} {R : Rec} (hR : RecOk P R) (h : isBool x N (R.h g [] ⟨.e, 0, 0⟩) = true) : SOk P g (knownF x N) := by
  intro R' _ args s v s' hh
  obtain ⟨s1, e1, e2⟩ := isBool_some h
  have hc := hR.h _ _ _ _ _ e1
  unfold knownF at hh
  split at hh
  · split at hh
    rename_i t n m
    obtain ⟨hn, hh⟩ := cond_some hh
    obtain ⟨hm, hh⟩ := cond_some hh
    have hn := Nat.eq_of_beq_eq_true hn
    have hm := Nat.eq_of_beq_eq_true hm
    subst hn hm
    cases hh
    exact (ACall.forget (hc.mono fun v' σ' hk => ⟨hk.1, by rw [hk.2]; exact e2⟩)).mono fun v' σ' hk => ⟨hk.1, hk.2⟩
  · cases hh

end Hb
end
