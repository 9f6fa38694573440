/- A layer for programs of small data: values, stores, code, and an evaluator of code that the kernel runs; part 9. -/
import Derived.Test.YtkmpehlhplhnhaaGreatDoorH8
import Derived.Laws.Externs
import Derived.Laws.StandIn
import Derived.Lib.Bytealg
import Derived.Lib.Builder
import Derived.Lib.MakeNoZero
import Derived.KernelRfl
import Derived.Lib.IndexEntry

section
set_option linter.unusedVariables false
set_option linter.unusedSimpArgs false
set_option linter.constructorNameAsVariable false
set_option autoImplicit false
set_option linter.unusedSimpArgs false
set_option linter.unusedVariables false
set_option linter.constructorNameAsVariable false
namespace Hb
open Go
def DQ (A : List Nat) (f : Nat → AV) (kN : KN) (kE : KE) (a : Ans) (e : XExit) (ρ : Env) (σ : St) : Prop :=
  ∃ s, s.st = σ ∧ In (atExit kN kE e ρ.f ρ.d s) a ∧ ∀ t, t ∉ A → ρ.f t = f t
section
variable {P : Prg} {R : Rec} {N : Nat} {rd : Option (Nat × Nat)}
theorem DQ.sub {A B : List Nat} {f : Nat → AV} {kN : KN} {kE : KE} {a : Ans} {e : XExit} {ρ : Env} {σ : St} (h : DQ A f kN kE a e ρ σ) (hs : ∀ t, t ∈ A → t ∈ B) : DQ B f kN kE a e ρ σ := by
  obtain ⟨s, h1, h2, h3⟩ := h
  exact ⟨s, h1, h2, fun t ht => h3 t fun h => ht (hs t h)⟩
theorem DQ.le {A : List Nat} {f : Nat → AV} {kN : KN} {kE : KE} {a b : Ans} {e : XExit} {ρ : Env} {σ : St} (h : DQ A f kN kE a e ρ σ) (hs : Sub a b) : DQ A f kN kE b e ρ σ := by
  obtain ⟨s, h1, h2, h3⟩ := h
  exact ⟨s, h1, h2.sub hs, h3⟩
def DenOk (P : Prg) (N : Nat) (rd : Option (Nat × Nat)) (x : XC) (D : Den) : Prop :=
  ∀ f d s kN kE a, D f d s kN kE = some a → AX P N rd x ⟨f, d⟩ s.st (DQ (asg x) f kN kE a)
theorem join_le {J A : List Nat} {f ρ : Nat → AV} (h : ∀ t, t ∉ A → ρ t = f t) (t : Nat) : joinF J (mskF A f) ρ t = ρ t ∨ joinF J (mskF A f) ρ t = .u := by
  rcases joinF_or J (mskF A f) ρ t with e | e
  · exact .inl e
  · rw [e]
    by_cases ht : t ∈ A
    · exact .inr (mskF_in ht)
    · rw [mskF_out ht]; exact .inl (h t ht).symm
theorem join_keep {J A : List Nat} {f ρ : Nat → AV} (h : ∀ t, t ∉ A → ρ t = f t) {t : Nat} (ht : t ∉ A) : joinF J (mskF A f) ρ t = f t := by
  rcases joinF_or J (mskF A f) ρ t with e | e
  · rw [e]; exact h t ht
  · rw [e]; exact mskF_out ht
theorem seq_some {j : Option (List Nat)} {x y : XC} {D E : Den} (hD : DenOk P N rd x D) (hE : DenOk P N rd y E) : DenOk P N rd (.seq j x y) (dSeq j (asg x) D E) := by
  intro f d s kN kE a h
  cases j with
  | none =>
    refine AX.seq ((hD f d s _ _ a h).mono fun e ρ σ ⟨s', h1, h2, h3⟩ => ?_)
    cases e with
    | normal =>
      simp only [Then]
      subst h1
      obtain ⟨a', h2, hsub⟩ := h2
      refine (hE ρ.f ρ.d s' kN kE a' h2).mono fun e' ρ' σ' ⟨s'', k1, k2, k3⟩ => ⟨s'', k1, k2.sub hsub, fun t ht => ?_⟩
      simp only [asg, List.mem_append, not_or] at ht
      rw [k3 t ht.2, h3 t ht.1]
    | exit id => exact ⟨s', h1, h2, fun t ht => h3 t fun hh => ht (by simp [asg, hh])⟩
    | ret => exact ⟨s', h1, h2, fun t ht => h3 t fun hh => ht (by simp [asg, hh])⟩
  | some J =>
    have h : D f d s (app J (cur J (mskF (asg x) f) fun f d s => E f d s kN kE)) kE = some a := h
    refine AX.seq ((hD f d s _ _ a h).mono fun e ρ σ ⟨s', h1, h2, h3⟩ => ?_)
    cases e with
    | normal =>
      simp only [Then]
      subst h1
      simp only [atExit, app_cur] at h2
      obtain ⟨a', h2, hsub⟩ := h2
      have := hE _ _ _ _ _ _ h2
      refine AX.weak (ρ' := ⟨joinF J (mskF (asg x) f) ρ.f, ρ.d⟩) (this.mono fun e' ρ' σ' ⟨s'', k1, k2, k3⟩ => ⟨s'', k1, k2.sub hsub, fun t ht => ?_⟩) rfl (join_le h3)
      simp only [asg, List.mem_append, not_or] at ht
      rw [k3 t ht.2]
      exact join_keep h3 ht.1
    | exit id => exact ⟨s', h1, h2, fun t ht => h3 t fun hh => ht (by simp [asg, hh])⟩
    | ret => exact ⟨s', h1, h2, fun t ht => h3 t fun hh => ht (by simp [asg, hh])⟩
theorem ALoop_mono {x : XC} {ρ : Env} {σ : St} {Q Q' : XExit → Env → St → Prop} (h : ALoop P N rd x ρ σ Q) (hq : ∀ e ρ σ, Q e ρ σ → Q' e ρ σ) : ALoop P N rd x ρ σ Q' :=
  fun hk hh code hc c a l h1 h2 h3 h4 b k cs hro hb hr =>
    let ⟨e, a', w', ⟨c', ρ', e', k1, k2, k3, k4, k5, k6⟩, r⟩ := h hk hh code hc c a l h1 h2 h3 h4 b k cs hro hb hr
    ⟨e, a', w', ⟨c', ρ', e', k1, k2, k3, k4, k5, hq _ _ _ k6⟩, r⟩
theorem lp_some {L : List Nat} {x : XC} {D : Den} (hD : DenOk P N rd x D) {g : Nat → AV} {kN : KN} {kE : KE} : ∀ (n : Nat) (f : Nat → AV) (d : List (Nat × Nat)) (s : ES) (a : Ans), (∀ t, t ∉ asg x → f t = g t) →
    app L (lp L n fun ih => cur L (mskF (asg x) g) fun f d s => D f d s (app L ih) kE) f d s = some a → ALoop P N rd x ⟨f, d⟩ s.st (DQ (asg x) g kN kE a) := by
  intro n
  induction n with
  | zero =>
    intro f d s a _ h
    have h : app L (cur L (fun _ => .u) fun _ _ _ => none) f d s = some a := h
    rw [app_cur] at h
    cases h
  | succ n ih =>
    intro f d s a hf h
    have h : app L (cur L (mskF (asg x) g) fun f d s => D f d s (app L (lp L n fun ih => cur L (mskF (asg x) g) fun f d s => D f d s (app L ih) kE)) kE) f d s = some a := h
    rw [app_cur] at h
    have hj : ∀ t, t ∉ asg x → joinF L (mskF (asg x) g) f t = g t := fun t ht => join_keep hf ht
    refine ALoop.of (AX.weak (ρ' := ⟨joinF L (mskF (asg x) g) f, d⟩) ((hD _ d s _ _ a h).mono fun e ρ σ ⟨s', h1, h2, h3⟩ => ?_) rfl (join_le hf))
    have hg : ∀ t, t ∉ asg x → ρ.f t = g t := fun t ht => (h3 t ht).trans (hj t ht)
    cases e with
    | normal =>
      simp only [LoopQ]
      obtain ⟨a', h2, hsub⟩ := h2
      have := ih ρ.f ρ.d s' a' hg h2
      rw [← h1]
      exact ALoop_mono this fun e ρ σ hq => hq.le hsub
    | exit id => exact ⟨s', h1, h2, hg⟩
    | ret => exact ⟨s', h1, h2, hg⟩
theorem eRangeEnd_some {r st : Nat} {f : Nat → AV} {d : List (Nat × Nat)} {s : ES} {kN : KN} {kE : KE} {a : Ans} {A : List Nat} (h : eRangeEnd r st d s (fun d s => kN f d s) (fun e d s => kE e f d s) = some a) : RangeEnd r st ⟨f, d⟩ (DQ A f kN kE a) s.st := by
  unfold eRangeEnd at h
  unfold RangeEnd
  obtain ⟨b, hb, h⟩ := sAt_some h
  rw [hb]
  split at h
  · rename_i st' state pe N' ρl ps xa xb dr ds
    simp only
    have fin : ∀ (e : XExit), (pPut s r none fun s' => atExit kN kE e f d s') = some a → DQ A f kN kE a e ⟨f, d⟩ (s.st.1.set r none, s.st.2) := by
      intro e h
      obtain ⟨s', h1, h2⟩ := pPut_some h
      exact ⟨s', h1, In.of h2, fun _ _ => rfl⟩
    cases state with
    | busy => cases h
    | _ =>
      refine ⟨by simp, ?_⟩
      have h : ePend pe r d s (fun d s => kN f d s) (fun e d s => kE e f d s) = some a := h
      cases pe with
      | none => exact fin .normal h
      | some e => cases e with
        | normal => exact fin .normal h
        | exit id => exact fin (.exit id) h
        | ret => exact fin .ret h
  · cases h
theorem allLt_iff {N : Nat} : ∀ {ps : List Nat}, allLt ps N = true → ∀ p ∈ ps, p < N
  | [], _, p, hp => by cases hp
  | q :: ps, h, p, hp => by
    have h : cond (Nat.ble (Nat.succ q) N) (allLt ps N) false = true := h
    cases hq : Nat.ble (Nat.succ q) N with
    | false => rw [hq] at h; cases h
    | true =>
      rw [hq] at h
      rcases List.mem_cons.1 hp with rfl | hp
      · exact Nat.le_of_ble_eq_true hq
      · exact allLt_iff h p hp
theorem den_ok (hm : P.follows .mixedOrders = true) (hR : RecOk P R) {top : Bool} (htop : top = true → rd = none) : ∀ (x : XC), DenOk P N rd x (den R N top x)
  | .skip => fun f d s kN kE a h => AX.skip ⟨s, rfl, In.of h, fun _ _ => rfl⟩
  | .ops l => fun f d s kN kE a h => AX.ops (XGo_mono (fun ρ σ ⟨s', h1, h2, h3, h4⟩ => ⟨s', h1, by rw [h3]; exact h2, h4⟩) (eOps_some (d := d) hR h))
  | .draw t => fun f d s kN kE a h => AX.draw hm (XTree_mono (fun ρ σ ⟨s', h1, h2, h3, h4⟩ => ⟨s', h1, by rw [h3]; exact h2, h4⟩) (eTree_some (d := d) hR h))
  | .seq j x y => seq_some (den_ok hm hR htop x) (den_ok hm hR htop y)
  | .cond c x y => fun f d s kN kE a h => by
    have h : eCond (c.ev f) (den R N top x f d s kN kE) (den R N top y f d s kN kE) = some a := h
    rw [eCond_def] at h
    split at h
    · rename_i t ht
      refine AX.cond (t := t) ht (fun he => ?_) (fun he => ?_)
      · subst he
        exact (den_ok hm hR htop x f d s kN kE a h).mono fun e ρ σ hq => hq.sub fun t ht => by simp [asg, ht]
      · subst he
        exact (den_ok hm hR htop y f d s kN kE a h).mono fun e ρ σ hq => hq.sub fun t ht => by simp [asg, ht]
    · cases h
  | .block id x => fun f d s kN kE a h => by
    refine AX.block ((den_ok hm hR htop x f d s kN (kBlk id kN kE) a h).mono fun e ρ σ ⟨s', h1, h2, h3⟩ => ?_)
    cases e with
    | normal => exact ⟨s', h1, h2, h3⟩
    | exit i =>
      simp only [InBlk]
      simp only [atExit, kBlk, xsel, beqN] at h2
      by_cases hi : i = id
      · rw [if_pos hi]
        simp only [hi, decide_true, cond_true] at h2
        exact ⟨s', h1, h2, h3⟩
      · rw [if_neg hi]
        simp only [hi, decide_false, cond_false] at h2
        exact ⟨s', h1, h2, h3⟩
    | ret => exact ⟨s', h1, h2, h3⟩
  | .loop L x => fun f d s kN kE a h => AX.loop (lp_some (den_ok hm hR htop x) 30000 f d s a (fun _ _ => rfl) h)
  | .range g ps L xa xb => fun f d s kN kE a h => by
    have h : cond top (pRange R.h N (g.ev f) ps (pickF L f) xa xb d s (fun d s => kN f d s) fun e d s => kE e f d s) none = some a := h
    obtain ⟨ht, h⟩ := cond_some h
    have hrd := htop ht
    subst hrd
    unfold pRange at h
    split at h
    · rename_i gf first cap hg
      obtain ⟨hps, h⟩ := cond_some h
      obtain ⟨s1, hs1, h⟩ := pPush_some h
      obtain ⟨s2, hs2, h⟩ := pPush_some h
      obtain ⟨a3, hc, h⟩ := callK_some h
      rw [hs1] at hs2 hc h
      have hlen : (s.st.1 ++ [some (Blk.dfr s.st.2)]).length = s.st.1.length + 1 := by simp
      rw [hlen] at hc h
      simp only at hs2 hc h
      refine AX.range hg (allLt_iff hps) ?_
      have hcall := hR.h _ _ _ _ hc
      rw [hs2] at hcall
      refine hcall.mono fun v σ' ⟨s3, h1, h2⟩ => ?_
      rw [← h2]
      obtain ⟨a', h', hsub⟩ := h v s3 h1
      have hq := eRangeEnd_some (A := asg (.range g ps L xa xb)) h'
      unfold RangeEnd at hq ⊢
      split at hq
      · split at hq <;> first | exact hq.elim | exact ⟨hq.1, DQ.le hq.2 hsub⟩ | skip
      · exact hq.elim
    · cases h
  | .exit id => fun f d s kN kE a h => AX.exit ⟨s, rfl, In.of h, fun _ _ => rfl⟩
  | .ret => fun f d s kN kE a h => AX.ret ⟨s, rfl, In.of h, fun _ _ => rfl⟩
  | .tag t x => fun f d s kN kE a h => by cases h
  | .bad => fun f d s kN kE a h => by cases h
noncomputable def eLeave (d : List (Nat × Nat)) (s : ES) (k : ES → Res) : Res :=
  List.rec (motive := fun _ => ES → Res) (fun s => k s) (fun p _ ih s => sAt s p.1 p.2 fun b => (match b with | .dfr _ => pPut s p.1 none ih | _ => none)) d s
noncomputable abbrev eRes (s : ES) (f : Nat → AV) (rs : List XR) (k : List AV → Res) : Res :=
  List.rec (motive := fun _ => (List AV → Res) → Res) (fun k => k []) (fun r _ ih k => XR.rec (motive := fun _ => Res) (fun n => ih fun vs => k (f n :: vs)) (fun a g n => pLoad s g n (f a) fun v => ih fun vs => k (v :: vs)) r) rs k
noncomputable abbrev finR (vs : List AV) (s : ES) : Res :=
  match vs with
  | [v] => some (.ret v s)
  | l => some (.ret (.tup l) s)
noncomputable abbrev eFin (rs : List XR) (f : Nat → AV) (d : List (Nat × Nat)) (s : ES) : Res := eLeave d s fun s' => eRes s' f rs fun vs => finR vs s'
def xfin (e : XExit) (r : Res) : Res :=
  match e with
  | .ret => r
  | _ => none
noncomputable abbrev eFinE (rs : List XR) (e : XExit) (f : Nat → AV) (d : List (Nat × Nat)) (s : ES) : Res := xfin e (eFin rs f d s)
theorem finR_eq (vs : List AV) (s : ES) : finR vs s = some (.ret (oneOrTup vs) s) := by
  rcases vs with _ | ⟨v, _ | ⟨w, l⟩⟩ <;> rfl
theorem eRes_some {s : ES} {f : Nat → AV} {a : Ans} : ∀ {rs : List XR} {k : List AV → Res}, eRes s f rs k = some a → ∃ vs, evRs s.st.1 f rs = some vs ∧ k vs = some a
  | [], k, h => ⟨[], rfl, h⟩
  | .t n :: xs, k, h => by
    have h : eRes s f xs (fun vs => k (f n :: vs)) = some a := h
    obtain ⟨vs, h1, h2⟩ := eRes_some h
    exact ⟨_, by simp only [evRs, XR.ev, h1]; rfl, h2⟩
  | .c p g n :: xs, k, h => by
    have h : (pLoad s g n (f p) fun v => eRes s f xs fun vs => k (v :: vs)) = some a := h
    have e : (pLoad s g n (f p) fun v => eRes s f xs fun vs => k (v :: vs)) = pop s f (.load g n (.t p)) fun v => eRes s f xs fun vs => k (v :: vs) := rfl
    rw [e, pop_eq] at h
    obtain ⟨v, h1, h⟩ := kont_some h
    obtain ⟨vs, h2, h3⟩ := eRes_some h
    exact ⟨_, by simp only [evRs, XR.ev, h1, h2]; rfl, h3⟩
theorem eLeave_some {k : ES → Res} {a : Ans} : ∀ {d : List (Nat × Nat)} {s : ES}, eLeave d s k = some a → ∃ σ' s', leave s.st.1 d = some σ' ∧ s'.st = (σ', s.st.2) ∧ k s' = some a
  | [], s, h => ⟨_, s, rfl, rfl, h⟩
  | (r, st) :: d, s, h => by
    have h : (sAt s r st fun b => (match b with | .dfr _ => pPut s r none (fun s => eLeave d s k) | _ => none)) = some a := h
    simp only [leave]
    obtain ⟨b, hb, h⟩ := sAt_some h
    rw [hb]
    split at h
    · obtain ⟨s1, h1, h2⟩ := pPut_some h
      obtain ⟨σ', s', k1, k2, k3⟩ := eLeave_some h2
      rw [h1] at k1 k2
      exact ⟨σ', s', k1, k2, k3⟩
    · cases h
def finP (l : Option Store) (g : Store → Option (List AV)) (K : List AV → Store → Prop) : Prop :=
  match l with
  | some σ' => (match g σ' with
    | some l => K l σ'
    | none => False)
  | none => False
theorem eFin_some {rs : List XR} {f : Nat → AV} {d : List (Nat × Nat)} {s : ES} {a : Ans} (h : eFin rs f d s = some a) :
    ∃ v s', a = .ret v s' ∧ finP (leave s.st.1 d) (fun σ' => evRs σ' f rs) fun l σ' => (oneOrTup l = v ∧ (σ', s.st.2) = s'.st) := by
  unfold eFin at h
  obtain ⟨σ', s', h1, h2, h3⟩ := eLeave_some h
  obtain ⟨vs, h4, h5⟩ := eRes_some h3
  rw [finR_eq] at h5
  cases h5
  refine ⟨_, s', rfl, ?_⟩
  rw [h2] at h4
  simp only [finP, h1, h4]
  exact ⟨trivial, h2.symm⟩
abbrev CurV (A : List Nat) : Type := List.rec (motive := fun _ => Type) Res (fun _ _ ih => AV → ih) A
noncomputable abbrev curV (A : List Nat) (g : Nat → AV) (F : (Nat → AV) → Res) : CurV A :=
  List.rec (motive := fun A => (Nat → AV) → CurV A) (fun g => F g) (fun a _ ih g => fun v => ih (updB g a v)) A g
noncomputable def argsK (A : List Nat) (args : List AV) (C : CurV A) : Res :=
  List.rec (motive := fun A => List AV → CurV A → Res) (fun as C => List.casesOn as C fun _ _ => none) (fun _ _ ih as C => List.casesOn as none fun a t => ih t (C a)) A args C
noncomputable def whV (v : AV) (k : KP) : Res :=
  match v with
  | .u => k .u | .b x => k (.b x) | .i kd n => k (.i kd n) | .s l => k (.s l) | .p r st kk i o => k (.p r st kk i o) | .pe cs kk i o => k (.pe cs kk i o) | .np => k .np
  | .sl kk n cs => k (.sl kk n cs) | .ns => k .ns | .sz => k .sz | .gr r st i n kk => k (.gr r st i n kk) | .m r st => k (.m r st) | .mi ck bs ks => k (.mi ck bs ks) | .nm => k .nm | .it r st => k (.it r st)
  | .fn f a b => k (.fn f a b) | .fy r st => k (.fy r st) | .nf => k .nf | .ifc t v => k (.ifc t v) | .ni => k .ni | .agg l => k (.agg l) | .tup l => k (.tup l)
theorem whV_eq (v : AV) (k : KP) : whV v k = k v := by cases v <;> rfl
noncomputable def tmpsK (A : List Nat) (f : Nat → AV) (C : CurV A) : Res :=
  List.rec (motive := fun A => CurV A → Res) (fun C => C) (fun a _ ih C => whV (f a) fun v => ih (C v)) A C
def putL (A : List Nat) (g : Nat → AV) (as : List AV) : Nat → AV :=
  match A, as with
  | a :: A, v :: as => putL A (updB g a v) as
  | _, _ => g
theorem argsK_some {a : Ans} {F : (Nat → AV) → Res} : ∀ {A : List Nat} {args : List AV} {g : Nat → AV}, argsK A args (curV A g F) = some a → args.length = A.length ∧ F (putL A g args) = some a
  | [], [], g, h => ⟨rfl, h⟩
  | [], _ :: _, g, h => by cases h
  | x :: A, [], g, h => by cases h
  | x :: A, v :: as, g, h => by
    have h : argsK A as (curV A (updB g x v) F) = some a := h
    obtain ⟨h1, h2⟩ := argsK_some h
    exact ⟨by simp [h1], h2⟩
theorem tmpsK_eq {F : (Nat → AV) → Res} {f : Nat → AV} : ∀ {A : List Nat} {g : Nat → AV}, tmpsK A f (curV A g F) = F (joinF A g f)
  | [], g => rfl
  | x :: A, g => by
    have : tmpsK (x :: A) f (curV (x :: A) g F) = whV (f x) fun v => tmpsK A f (curV A (updB g x v) F) := rfl
    rw [this, whV_eq, tmpsK_eq]; rfl
theorem putL_range : ∀ (n k : Nat) (as : List AV) (g : Nat → AV), as.length = n → ∀ t, putL (List.range' k n) g as t = if k ≤ t ∧ t < k + n then as.getD (t - k) (.tup []) else g t
  | 0, k, as, g, h, t => by
    have : as = [] := List.eq_nil_of_length_eq_zero h
    subst this
    simp only [List.range'_zero, putL]
    rw [if_neg (by omega)]
  | n + 1, k, [], g, h, t => by cases h
  | n + 1, k, v :: as, g, h, t => by
    simp only [List.range'_succ, putL]
    rw [putL_range n (k + 1) as _ (by simpa using h) t]
    by_cases h1 : k + 1 ≤ t ∧ t < k + 1 + n
    · rw [if_pos h1, if_pos (by omega)]
      have : t - k = (t - (k + 1)) + 1 := by omega
      rw [this]; simp
    · rw [if_neg h1]
      unfold updB
      rw [beqN]
      by_cases h2 : t = k
      · subst h2
        simp
      · simp only [h2, decide_false, cond_false]
        rw [if_neg (by omega)]
theorem putL_args {as : List AV} {A : List Nat} (h : as.length = A.length) (hA : A = List.range' 0 A.length) : putL A (fun _ => .tup []) as = argEnv as := by
  funext t
  rw [hA, putL_range A.length 0 as _ h t]
  unfold argEnv
  by_cases ht : t < A.length
  · rw [if_pos (by omega)]; rfl
  · rw [if_neg (by omega)]
    rw [List.getD_eq_getElem?_getD, List.getElem?_eq_none (by omega)]
    rfl
noncomputable def eEnt (R : Rec) (n : Nat) (x : XC) (rs : List XR) (A : List Nat) (args : List AV) (s : ES) : Res :=
  argsK A args (curV A (fun _ => .tup []) fun f => den R n true x f [] s (eFin rs) (eFinE rs))
abbrev Fun := Rec → List AV → ES → Res
def SOk (P : Prg) (g : FuncId) (b : Fun) : Prop := ∀ R, RecOk P R → ∀ args s a, b R args s = some a → ACall P g args s.st (RetIn a)
abbrev Ext1 := List AV → ES → Res
def EOkX (P : Prg) (g : FuncId) (b : Ext1) : Prop := ∀ args s a, b args s = some a → AExt P g args s.st (RetIn a)
theorem eEnt_ok (hm : P.follows .mixedOrders = true) (hR : RecOk P R) {g : FuncId} {n : Nat} {x : XC} {rs : List XR} {A : List Nat} (hf : FunOk P g x rs n) (hA : A = List.range' 0 A.length) (hn : A.length ≤ n) {args : List AV} {s : ES} {a : Ans}
    (h : eEnt R n x rs A args s = some a) : ACall P g args s.st (RetIn a) := by
  obtain ⟨h1, h2⟩ := argsK_some h
  rw [putL_args h1 hA] at h2
  refine ACall.of hf (by omega) ((den_ok hm hR (fun _ => rfl) x _ _ _ _ _ _ h2).mono fun e ρ σ ⟨s1, h1, h2, _⟩ => ?_)
  subst h1
  obtain ⟨a', h2, hsub⟩ := h2
  have fin : eFin rs ρ.f ρ.d s1 = some a' → finP (leave s1.st.1 ρ.d) (fun σ' => evRs σ' ρ.f rs) fun l σ' => RetIn a (oneOrTup l) (σ', s1.st.2) := by
    intro h
    obtain ⟨v', s'', e1, e2⟩ := eFin_some h
    subst e1
    unfold finP at e2 ⊢
    split at e2
    · split at e2
      · obtain ⟨q1, q2⟩ := e2
        exact ⟨s'', hsub _ (by rw [q1]; rfl), q2.symm⟩
      · exact e2.elim
    · exact e2.elim
  have bq : ∀ e, e = .normal ∨ e = .ret → finP (leave s1.st.1 ρ.d) (fun σ' => evRs σ' ρ.f rs) (fun l σ' => RetIn a (oneOrTup l) (σ', s1.st.2)) → BodyQ rs (RetIn a) e ρ s1.st := by
    intro e he h
    unfold finP at h
    have : (match leave s1.st.1 ρ.d with
        | some σ' => (match evRs σ' ρ.f rs with
          | some l => RetIn a (oneOrTup l) (σ', s1.st.2)
          | none => False)
        | none => False) := h
    rcases he with rfl | rfl <;> exact this
  cases e with
  | normal => exact bq _ (.inl rfl) (fin h2)
  | ret => exact bq _ (.inr rfl) (fin h2)
  | exit id => cases h2
theorem SOk.of (hm : P.follows .mixedOrders = true) {g : FuncId} {n : Nat} {x : XC} {rs : List XR} {A : List Nat} {b : Fun} {Rk : Rec → Rec} (hf : FunOk P g x rs n) (hA : A = List.range' 0 A.length) (hn : A.length ≤ n)
    (hR : ∀ R, RecOk P R → RecOk P (Rk R)) (hb : b = fun R args s => eEnt (Rk R) n x rs A args s) : SOk P g b := by
  intro R hRR args s a h
  rw [hb] at h
  exact eEnt_ok hm (hR R hRR) hf hA hn h
noncomputable abbrev bodyN (L : List Nat) (f : Nat → AV) (d : List (Nat × Nat)) (s : ES) : Res := List.casesOn d (some (.ex .normal (pickF L f) s)) fun _ _ => none
noncomputable abbrev bodyE (L : List Nat) (e : XExit) (f : Nat → AV) (d : List (Nat × Nat)) (s : ES) : Res := List.casesOn d (some (.ex e (pickF L f) s)) fun _ _ => none
noncomputable def eBod (R : Rec) (N : Nat) (x : XC) (A L : List Nat) (f : Nat → AV) (s : ES) : Res :=
  tmpsK A f (curV A (fun _ => .u) fun f => den R N false x f [] s (bodyN L) (bodyE L))
abbrev Cod := Rec → (Nat → AV) → ES → Res
def COk (P : Prg) (t N : Nat) (b : Cod) : Prop := ∀ x, P.rng t = some (N, x) → ∀ R, RecOk P R → ∀ f s a, b R f s = some a → ∀ rd, AX P N rd x ⟨f, []⟩ s.st (ExIn a)
theorem COk.of (hm : P.follows .mixedOrders = true) {t N : Nat} {x : XC} {A L : List Nat} {b : Cod} {Rk : Rec → Rec} (hx : P.rng t = some (N, x)) (hR : ∀ R, RecOk P R → RecOk P (Rk R)) (hb : b = fun R f s => eBod (Rk R) N x A L f s) : COk P t N b := by
  intro x' hx' R hRR f s a h rd
  rw [hx] at hx'
  cases hx'
  rw [hb] at h
  have h : tmpsK A f (curV A (fun _ => .u) fun f => den (Rk R) N false x f [] s (bodyN L) (bodyE L)) = some a := h
  rw [tmpsK_eq] at h
  refine AX.weak (ρ' := ⟨joinF A (fun _ => .u) f, []⟩) ?_ rfl (fun t => joinF_or A _ f t)
  refine (den_ok (rd := rd) hm (hR R hRR) (top := false) (fun h => by cases h) x _ _ _ _ _ _ h).mono fun e1 ρ σ ⟨s1, h1, h2, _⟩ => ?_
  obtain ⟨a', h2, hsub⟩ := h2
  have : bodyE L e1 ρ.f ρ.d s1 = some a' := by cases e1 <;> exact h2
  unfold bodyE at this
  cases hd : ρ.d with
  | nil =>
    rw [hd] at this
    cases this
    exact ⟨_, s1, hsub _ rfl, hd, fun t => pickF_eq L ρ.f t, h1⟩
  | cons p l => rw [hd] at this; cases this
inductive Ent where
  | fn (b : Fun)
  | ext (b : Ext1)
inductive Tab where
  | e
  | n (g : FuncId) (x : Ent) (a b : Tab)
noncomputable def Tab.find (t : Tab) (g : FuncId) (k : Ent → Res) : Res :=
  Tab.rec (motive := fun _ => Res) none (fun h x _ _ ia ib => cond (Nat.beq g h) (k x) (cond (Nat.ble g h) ia ib)) t
def EntOk (P : Prg) (g : FuncId) : Ent → Prop
  | .fn b => SOk P g b
  | .ext b => EOkX P g b
def TabOk (P : Prg) : Tab → Prop
  | .e => True
  | .n g x a b => EntOk P g x ∧ TabOk P a ∧ TabOk P b
inductive TTab where
  | e
  | n (t N : Nat) (x : Cod) (a b : TTab)
noncomputable def TTab.find (t : TTab) (g : Nat) (k : Nat → Cod → Res) : Res :=
  TTab.rec (motive := fun _ => Res) none (fun h N x _ _ ia ib => cond (Nat.beq g h) (k N x) (cond (Nat.ble g h) ia ib)) t
def TTabOk (P : Prg) : TTab → Prop
  | .e => True
  | .n t N x a b => COk P t N x ∧ TTabOk P a ∧ TTabOk P b
noncomputable def entF (R : Rec) (args : List AV) (s : ES) (e : Ent) : Res :=
  match e with
  | .fn b => b R args s
  | .ext b => b args s
noncomputable def entH (R : Rec) (args : List AV) (s : ES) (e : Ent) : Res :=
  match e with
  | .fn b => b R args s
  | .ext _ => none
noncomputable def tagB (T : TTab) (R : Rec) (N : Nat) (x : XC) (f : Nat → AV) (s : ES) : Res :=
  match x with
  | .tag t _ => T.find t fun N' c => cond (Nat.beq N N') (c R f s) none
  | _ => none
noncomputable def run (T : Tab) (U : TTab) (n : Nat) : Rec :=
  Nat.rec (motive := fun _ => Rec) ⟨fun _ _ _ => none, fun _ _ _ => none, fun _ _ _ => none, fun _ _ _ _ => none⟩
    (fun _ ih => ⟨fun g args s => T.find g fun e => entF ih args s e, fun g args s => T.find g fun e => entF ih args s e, fun g args s => T.find g fun e => entH ih args s e, fun N x f s => tagB U ih N x f s⟩) n
theorem Tab.find_some {g : FuncId} {k : Ent → Res} {a : Ans} : ∀ {T : Tab}, TabOk P T → T.find g k = some a → ∃ e, EntOk P g e ∧ k e = some a
  | .e, _, h => by cases h
  | .n h x a b, ⟨h1, h2, h3⟩, hh => by
    have hh : cond (Nat.beq g h) (k x) (cond (Nat.ble g h) (a.find g k) (b.find g k)) = some _ := hh
    cases hc : Nat.beq g h with
    | true =>
      rw [hc] at hh
      have : g = h := Nat.eq_of_beq_eq_true hc
      subst this
      exact ⟨x, h1, hh⟩
    | false =>
      rw [hc] at hh
      cases hl : Nat.ble g h with
      | true => rw [hl] at hh; exact Tab.find_some h2 hh
      | false => rw [hl] at hh; exact Tab.find_some h3 hh
theorem TTab.find_some {g : Nat} {k : Nat → Cod → Res} {a : Ans} : ∀ {T : TTab}, TTabOk P T → T.find g k = some a → ∃ N c, COk P g N c ∧ k N c = some a
  | .e, _, h => by cases h
  | .n h N x a b, ⟨h1, h2, h3⟩, hh => by
    have hh : cond (Nat.beq g h) (k N x) (cond (Nat.ble g h) (a.find g k) (b.find g k)) = some _ := hh
    cases hc : Nat.beq g h with
    | true =>
      rw [hc] at hh
      have : g = h := Nat.eq_of_beq_eq_true hc
      subst this
      exact ⟨N, x, h1, hh⟩
    | false =>
      rw [hc] at hh
      cases hl : Nat.ble g h with
      | true => rw [hl] at hh; exact TTab.find_some h2 hh
      | false => rw [hl] at hh; exact TTab.find_some h3 hh
theorem run_ok {T : Tab} {U : TTab} (hT : TabOk P T) (hU : TTabOk P U) : ∀ n, RecOk P (run T U n)
  | 0 => ⟨fun _ _ _ _ h => (by cases h), fun _ _ _ _ h => (by cases h), fun _ _ _ _ h => (by cases h), fun _ _ _ _ _ _ h => (by cases h)⟩
  | n + 1 => by
    have ih := run_ok hT hU n
    have ff : ∀ g args s a, (T.find g fun e => entF (run T U n) args s e) = some a → ACall P g args s.st (RetIn a) ∨ AExt P g args s.st (RetIn a) := by
      intro g args s a h
      obtain ⟨en, he, hk⟩ := Tab.find_some hT h
      cases en with
      | fn b => exact .inl (he _ ih args s a hk)
      | ext b => exact .inr (he args s a hk)
    refine ⟨ff, ff, fun g args s a h => ?_, fun N x f s a hx h rd => ?_⟩
    · obtain ⟨en, he, hk⟩ := Tab.find_some hT h
      cases en with
      | fn b => exact he _ ih args s a hk
      | ext b => cases hk
    · have h : tagB U (run T U n) N x f s = some a := h
      unfold tagB at h
      split at h
      · obtain ⟨N', c, hc, hk⟩ := TTab.find_some hU h
        obtain ⟨hN, hk2⟩ := cond_some hk
        have hN := Nat.eq_of_beq_eq_true hN
        subst hN
        exact hc _ hx.1 _ ih f s a hk2 rd
      · cases h
noncomputable def withF (g : FuncId) (b : Fun) (R R' : Rec) : Rec :=
  ⟨fun g' args s => cond (Nat.beq g' g) (b R args s) (R'.f g' args s), R'.g, R'.h, R'.b⟩
noncomputable def withX (g : FuncId) (b : Ext1) (R' : Rec) : Rec :=
  ⟨fun g' args s => cond (Nat.beq g' g) (b args s) (R'.f g' args s), R'.g, R'.h, R'.b⟩
theorem withF_ok {g : FuncId} {b : Fun} {R R' : Rec} (hb : SOk P g b) (hR : RecOk P R) (hR' : RecOk P R') : RecOk P (withF g b R R') := by
  refine ⟨fun g' args s a h => ?_, hR'.g, hR'.h, hR'.b⟩
  have h : cond (Nat.beq g' g) (b R args s) (R'.f g' args s) = some a := h
  cases hc : Nat.beq g' g with
  | true =>
    rw [hc] at h
    rw [Nat.eq_of_beq_eq_true hc]
    exact .inl (hb R hR args s a h)
  | false => rw [hc] at h; exact hR'.f _ _ _ _ h
theorem withX_ok {g : FuncId} {b : Ext1} {R' : Rec} (hb : EOkX P g b) (hR' : RecOk P R') : RecOk P (withX g b R') := by
  refine ⟨fun g' args s a h => ?_, hR'.g, hR'.h, hR'.b⟩
  have h : cond (Nat.beq g' g) (b args s) (R'.f g' args s) = some a := h
  cases hc : Nat.beq g' g with
  | true =>
    rw [hc] at h
    rw [Nat.eq_of_beq_eq_true hc]
    exact .inr (hb args s a h)
  | false => rw [hc] at h; exact hR'.f _ _ _ _ h
end
end Hb
end

section
set_option linter.unusedVariables false
set_option linter.unusedSimpArgs false
set_option linter.constructorNameAsVariable false
set_option autoImplicit false
set_option linter.unusedSimpArgs false
set_option linter.unusedVariables false
set_option linter.constructorNameAsVariable false
namespace Hb
open Go
def ExtIs (P : Prg) (f : FuncId) (e : Array Value → Sem Value) : Prop :=
  ∃ fn, P.funcs[f]? = some fn ∧ (fn.name == "runtime.NumGoroutine") = false ∧ fn.body.isNone = true ∧ Extern.findNext fn = none ∧ Extern.find fn = some e
theorem AExt.pure {P : Prg} {f : FuncId} {e : Array Value → Sem Value} {args : List AV} {s : ES} {v : AV} (hf : ExtIs P f e)
    (h : ∀ (c : Cx) (vs : List Value), RepL c args vs → ∃ u, (e vs.toArray).run P c.w = .ok u c.w ∧ RepV c v u) : AExt P f args s.st (RetIn (.ret v s)) := by
  intro c vs hσ hs hr
  obtain ⟨fn, h1, h2, h3, h4, h5⟩ := hf
  obtain ⟨u, hu1, hu2⟩ := h c vs hr
  refine ⟨c, u, v, ?_, hs, Ext.refl c, hu2, s, rfl, hσ.symm⟩
  rw [run_callFunc_extern h1 h2 h3 h4 h5, hu1]
  rfl
def fidx : List Nat → Nat → Nat → Option Nat
  | [], _, _ => none
  | a :: l, m, i => if a = m then some i else fidx l m (i + 1)
noncomputable def fidxK (l : List Nat) (m : Nat) (k : KP) : Res :=
  List.rec (motive := fun _ => Nat → Res) (fun _ => k (.i .i64 (.negSucc 0))) (fun a _ ih i => cond (Nat.beq a m) (frcN i fun i => k (.i .i64 (.ofNat i))) (ih (Nat.add i 1))) l 0
theorem fidxK_eq (l : List Nat) (m : Nat) (k : KP) : fidxK l m k = k (.i .i64 (match fidx l m 0 with | some i => (i : Int) | none => -1)) := by
  have : ∀ (l : List Nat) (i : Nat), (List.rec (motive := fun _ => Nat → Res) (fun _ => k (.i .i64 (.negSucc 0))) (fun a _ ih i => cond (Nat.beq a m) (frcN i fun i => k (.i .i64 (.ofNat i))) (ih (Nat.add i 1))) l : Nat → Res) i =
      k (.i .i64 (match fidx l m i with | some i => (i : Int) | none => -1)) := by
    intro l
    induction l with
    | nil => intro i; rfl
    | cons a l ih =>
      intro i
      show cond (Nat.beq a m) (frcN i fun i => k (.i .i64 (.ofNat i))) _ = _
      rw [beqN, frcN_eq, ih]
      simp only [fidx]
      by_cases h : a = m
      · simp [h]
      · simp only [h, decide_false, cond_false, if_false]
  exact this l 0
theorem fidx_range (m : Nat) : ∀ (l : List Nat) (i : Nat) (p : Nat → Bool), (∀ j, j < l.length → p (i + j) = (l[j]? == some m)) → (List.range' i l.length).find? p = fidx l m i
  | [], i, p, h => rfl
  | a :: l, i, p, h => by
    simp only [List.length_cons, List.range'_succ, List.find?_cons, fidx]
    have h0 := h 0 (by simp)
    simp only [Nat.add_zero, List.getElem?_cons_zero] at h0
    rw [h0]
    by_cases e : a = m
    · simp [e]
    · have : (some a == some m) = false := by simpa using e
      simp only [this, e, if_false]
      refine fidx_range m l (i + 1) p fun j hj => ?_
      have := h (j + 1) (by simpa using hj)
      simp only [List.getElem?_cons_succ] at this
      rw [← this]
      congr 1
      omega
noncomputable def xIndexByte (args : List AV) (s : ES) : Res :=
  match args with
  | [.s l, .i .u8 (.ofNat m)] => cond (Nat.ble m 255) (fidxK l m fun v => some (.ret v s)) none
  | _ => none
theorem xIndexByte_ok {P : Prg} {f : FuncId} (hf : ExtIs P f Extern.BytealgIndexByte.indexByte) : EOkX P f xIndexByte := by
  intro args s a h
  unfold xIndexByte at h
  split at h
  · rename_i l m
    obtain ⟨hm, h⟩ := cond_some h
    have hm : m < 256 := by have := Nat.le_of_ble_eq_true hm; omega
    rw [fidxK_eq] at h
    cases h
    refine AExt.pure hf fun cx vs hr => ?_
    simp only [RepL, RepV] at hr
    obtain ⟨y, ys, rfl, ⟨rfl, hl⟩, y2, ys2, rfl, rfl, rfl⟩ := hr
    refine ⟨_, run_indexByte_string _ _ _, ?_⟩
    simp only [RepV]
    congr 1
    unfold firstIdx
    rw [bs_size, List.range_eq_range', fidx_range m l 0]
    · rfl
    · intro j hj
      have hj' : j < (bs l).size := by rw [bs_size]; exact hj
      rw [Nat.zero_add, getElem!_pos (bs l) j hj', List.getElem?_eq_getElem hj]
      have e1 : (bs l)[j] = UInt8.ofNat l[j] := by
        show (l.map UInt8.ofNat).toArray[j]'(by simpa using hj) = _
        rw [List.getElem_toArray, List.getElem_map]
      rw [e1, Bool.eq_iff_iff, beq_iff_eq, beq_iff_eq, Option.some.injEq]
      have e2 : (Int.ofNat m).toNat.toUInt8 = UInt8.ofNat m := rfl
      rw [e2]
      exact ofNat_inj (hl _ (List.getElem_mem hj)) hm
  · cases h
noncomputable def cntR (l : List Nat) (m : Nat) : Nat := List.rec (motive := fun _ => Nat) 0 (fun a _ ih => cond (Nat.beq a m) (Nat.add ih 1) ih) l
theorem cntR_eq {m : Nat} (hm : m < 256) : ∀ {l : List Nat}, (∀ x ∈ l, x < 256) → cntR l m = (l.map UInt8.ofNat).count (UInt8.ofNat m)
  | [], _ => rfl
  | a :: l, h => by
    have : cntR (a :: l) m = cond (Nat.beq a m) (Nat.add (cntR l m) 1) (cntR l m) := rfl
    rw [this, cntR_eq hm (fun x hx => h x (by simp [hx])), beqN, List.map_cons, List.count_cons]
    have e : (UInt8.ofNat a == UInt8.ofNat m) = decide (a = m) := by
      rw [Bool.eq_iff_iff, beq_iff_eq, decide_eq_true_eq]
      exact ofNat_inj (h a (by simp)) hm
    rw [e]
    by_cases ha : a = m <;> simp [ha]
noncomputable def xCount (args : List AV) (s : ES) : Res :=
  match args with
  | [.s l, .i .u8 (.ofNat m)] => cond (Nat.ble m 255) (frcN (cntR l m) fun n => some (.ret (.i .i64 (.ofNat n)) s)) none
  | _ => none
theorem xCount_ok {P : Prg} {f : FuncId} (hf : ExtIs P f Extern.BytealgCount.count) : EOkX P f xCount := by
  intro args s a h
  unfold xCount at h
  split at h
  · rename_i l m
    obtain ⟨hm, h⟩ := cond_some h
    have hm : m < 256 := by have := Nat.le_of_ble_eq_true hm; omega
    rw [frcN_eq] at h
    cases h
    refine AExt.pure hf fun cx vs hr => ?_
    simp only [RepL, RepV] at hr
    obtain ⟨y, ys, rfl, ⟨rfl, hl⟩, y2, ys2, rfl, rfl, rfl⟩ := hr
    refine ⟨_, Lib.run_countString _ _ _, ?_⟩
    simp only [RepV]
    congr 1
    rw [cntR_eq hm hl]
    rfl
  · cases h
end Hb
end

section
set_option linter.unusedVariables false
set_option linter.unusedSimpArgs false
set_option linter.constructorNameAsVariable false
set_option autoImplicit false
set_option linter.unusedVariables false
namespace Hb
open Go
noncomputable def xNoEscape (args : List AV) (s : ES) : Res :=
  match args with
  | [v] => some (.ret v s)
  | _ => none
theorem xNoEscape_ok {P : Prg} {f : FuncId} (hf : ExtIs P f Extern.AbiNoEscape.same) : EOkX P f xNoEscape := by
  intro args s a h
  unfold xNoEscape at h
  split at h
  · rename_i v0
    cases h
    refine AExt.pure hf fun cx vs hr => ?_
    simp only [RepL] at hr
    obtain ⟨y, ys, rfl, hr, rfl⟩ := hr
    exact ⟨y, Lib.run_noEscape _ _, hr⟩
  · cases h
noncomputable def xMakeNoZero (e : Nat) (args : List AV) (s : ES) : Res :=
  match args with
  | [.i .i64 (.ofNat n)] => cond (Nat.ble n 1048576) (pPush s (fun x => .cells x false e 0 []) fun r x s' => some (.ret (.gr r x 0 n 1) s')) none
  | _ => none
theorem xMakeNoZero_ok {P : Prg} {f : FuncId} {e t : TypeId} {ps : Array TypeId} (hf : ExtIs P f (Extern.BytealgMakeNoZero.makeNoZero ps #[t])) (ht : P.underlying t = some (.slice e)) : EOkX P f (xMakeNoZero e) := by
  intro args s a h
  unfold xMakeNoZero at h
  split at h
  · rename_i n
    obtain ⟨hn, h⟩ := cond_some h
    have hn : n ≤ 1048576 := Nat.le_of_ble_eq_true hn
    obtain ⟨s1, q1, q2⟩ := pPush_some h
    cases q2
    intro c vs hσ hs hr
    obtain ⟨fn, h1, h2, h3, h4, h5⟩ := hf
    simp only [RepL, RepV] at hr
    obtain ⟨y, ys, rfl, rfl, rfl⟩ := hr
    obtain ⟨cs, r1, r2, _⟩ := Lib.run_makeNoZero (P := P.toProgram) c.w ps t e ht n (by omega)
    obtain ⟨c', e1, e2, e3, e4, e5⟩ := new_row (P := P) (c := c.drew.drew) (T := e) (arr := cs) (fz := (0, 0)) (f0 := 0) (k := 1) (n := n) (cap := cs.size) hs.drew.drew (cs := []) (by simp [RepL]) (by simp) (by simp) (fzOk_zero _ _) r2 (by simp)
    have hc1 : c.σ = s.st.1 := congrArg Prod.fst hσ
    have hc2 : c.nx = s.st.2 := congrArg Prod.snd hσ
    refine ⟨c', _, _, ?_, e3, ((Ext.drew c).trans (Ext.drew _)).trans e4, e5, s1, ?_, ?_⟩
    · rw [run_callFunc_extern h1 h2 h3 h4 h5]
      have : (Extern.BytealgMakeNoZero.makeNoZero ps #[t] [Value.int .i64 (Int.ofNat n)].toArray).run P c.w = .ok (.slice (some ⟨c.w.heap.size, 0, none⟩) n cs.size) (c.w.drew.drew.alloc (.cells cs e)) := r1
      rw [this, e1]
      rfl
    · show Ans.ret (AV.gr c.σ.length c.nx 0 n 1) s1 = _
      rw [hc1, hc2]
    · rw [e2, q1, ← hc1, ← hc2]
      rfl
  · cases h
noncomputable def xMapsClone (args : List AV) (s : ES) : Res :=
  match args with
  | [.ifc t (.m r st)] => sAt s r st fun b => (match b with
    | .map _ ck es => pPush s (fun x => .map x ck es) fun r x s' => some (.ret (.ifc t (.m r x)) s')
    | _ => none)
  | _ => none
theorem xMapsClone_ok {P : Prg} {f : FuncId} (hf : ExtIs P f Extern.MapsClone.clone) : EOkX P f xMapsClone := by
  intro args s a h
  unfold xMapsClone at h
  split at h
  · rename_i t r st
    obtain ⟨b, hb, h⟩ := sAt_some h
    split at h
    · rename_i st' ck es
      obtain ⟨s1, q1, q2⟩ := pPush_some h
      cases q2
      intro c vs hσ hs hr
      obtain ⟨fn, h1, h2, h3, h4, h5⟩ := hf
      have hc1 : c.σ = s.st.1 := congrArg Prod.fst hσ
      have hc2 : c.nx = s.st.2 := congrArg Prod.snd hσ
      simp only [RepL] at hr
      obtain ⟨y, ys, rfl, hr, rfl⟩ := hr
      simp only [RepV] at hr
      obtain ⟨v, rfl, hm⟩ := hr
      have hat : c.σ.at r st = some (.map st' ck es) := by rw [hc1]; exact hb
      have hux := hm.2.2 _ hat rfl
      subst hux
      obtain ⟨arr, e1, e2, g1, b2⟩ := map_block hs hat
      have hst : (Blk.map c.nx ck es).st = c.nx := rfl
      have he := Ext.push hs (.map arr ck) _ hst
      refine ⟨c.push (.map arr ck) (.map c.nx ck es), .iface t (.map (some c.w.heap.size)), .ifc t (.m c.σ.length c.nx), ?_, ?_, he, ?_, s1, ?_, ?_⟩
      · rw [run_callFunc_extern h1 h2 h3 h4 h5]
        have hrun : (Extern.MapsClone.clone #[Value.iface t (Value.map (some ((c.loc r).1)))]).run P.toProgram c.w = .ok (.iface t (.map (some c.w.heap.size))) (c.push (.map arr ck) (.map c.nx ck es)).w := by
          show ((getObj ((c.loc r).1) >>= fun o => match o with
            | .map entries clock => newObj (.map entries clock) >>= fun x => pure (Value.iface t (.map (some x)))
            | _ => stuck "maps.clone: a map expected") : Sem Value).run P.toProgram c.w = _
          simp only [Sem.run_bind, run_getMap e1, Result.andThen_ok, run_newObj_alloc, Sem.run_pure]
          rfl
        have hr2 : ([Value.iface t (Value.map (some ((c.loc r).1)))] : List Value).toArray = #[Value.iface t (Value.map (some ((c.loc r).1)))] := rfl
        rw [hr2, hrun]
        rfl
      · refine Sim.push hs _ _ hst fun he => ?_
        simp only [BlkRep, Cx.push, upd_same]
        exact ⟨arr, heap_alloc_new c.w _, e2.mono0 he.to0⟩
      · simp only [RepV]
        refine ⟨_, rfl, ⟨_, rfl⟩, by simp [Cx.push], fun blk hb hv => ?_⟩
        simp [Cx.push]
      · show Ans.ret (AV.ifc t (AV.m c.σ.length c.nx)) s1 = _
        rw [hc1, hc2]
      · rw [q1, ← hc1, ← hc2]
        rfl
    · cases h
  · cases h
end Hb
end

section
set_option linter.unusedVariables false
set_option linter.unusedSimpArgs false
set_option linter.constructorNameAsVariable false
set_option autoImplicit false
namespace Hb
open Go
def allOk (P : Prg) (N : Nat) : List (Nat × XC) → Prop
  | [] => True
  | p :: l => P.rng p.1 = some (N, p.2) ∧ allOk P N l
theorem allOk_mem {P : Prg} {N : Nat} : ∀ {l : List (Nat × XC)}, allOk P N l → ∀ p ∈ l, P.rng p.1 = some (N, p.2)
  | q :: l, h, p, hp => by
    rcases List.mem_cons.1 hp with rfl | hp
    · exact h.1
    · exact allOk_mem h.2 p hp
theorem XOk.of' {P : Prg} {N : Nat} {x : XC} (l : List (Nat × XC)) (h : tagsOf x = l) (k : allOk P N l) : XOk P N x := XOk.of (by rw [h]; exact allOk_mem k)
noncomputable def envL (l : List (Nat × AV)) : Nat → AV := List.rec (motive := fun _ => Nat → AV) (fun _ => .u) (fun p _ ih n => cond (Nat.beq n p.1) p.2 (ih n)) l
inductive RT where
  | e
  | n (t N : Nat) (x : XC) (a b : RT)
def RT.find : RT → Nat → Option (Nat × XC)
  | .e, _ => none
  | .n t N x a b, k => cond (Nat.beq k t) (some (N, x)) (cond (Nat.ble k t) (a.find k) (b.find k))
inductive GT where
  | e
  | n (g : Nat) (x : List AV) (a b : GT)
def GT.find : GT → Nat → Option (List AV)
  | .e, _ => none
  | .n t x a b, k => cond (Nat.beq k t) (some x) (cond (Nat.ble k t) (a.find k) (b.find k))
abbrev op1 (d : Nat) (x : XOp) : XOper := ⟨some d, x, none⟩
end Hb
end

section
set_option linter.unusedVariables false
set_option linter.unusedSimpArgs false
set_option linter.constructorNameAsVariable false
set_option autoImplicit false
set_option linter.unusedVariables false
namespace Hb
open Go
theorem ACall.forget {P : Prg} {g : FuncId} {args : List AV} {σ : St} {x : Bool} {N : Nat} (h : ACall P g args σ fun v' σ' => v' = .b x ∧ σ'.2 ≤ N) :
    ACall P g args σ fun v' σ' => v' = .b x ∧ σ' = ([], N) :=
  ⟨h.1, fun c vs h1 h2 h3 => let ⟨k1, k2⟩ := h.2 c vs h1 h2 h3
    ⟨k1, fun cs hr => by
      obtain ⟨e, w', fr, ⟨c', v, av, a1, a2, a3, a4, a5, a6, a7⟩, r2, r3⟩ := k2 cs hr
      subst a6
      have hl : Less [] c'.σ := fun r b hb => by simp at hb
      have e1 := a4.trans (Ext.less hl)
      have s1 := a3.less hl
      have e0 : Ext0 c' { c' with σ := [], nx := N } := ⟨fun _ _ => rfl, fun r blk' hr => (by simp at hr), a7, fun b arr T fz hb => ⟨arr, fz, hb, rfl⟩, fun _ h => h⟩
      exact ⟨e, w', fr, ⟨{ c' with σ := [], nx := N }, v, .b x, a1, a2, ⟨fun r b hb => (by simp at hb), fun r r' b b' hb => (by simp at hb), fun r b hb => (by simp at hb), s1.n0, fun g cs hg => (let ⟨p1, p2⟩ := a3.glob g cs hg; ⟨p1, RepAt.mono0 e0 _ _ _ (fun _ => p1) p2⟩)⟩,
        ⟨e1.keep, e1.own, e1.size, e1.live, Nat.le_trans a4.nx a7, e1.sz, e1.os, e1.tape, e1.output, e1.n0, e1.new0, e1.keep0⟩, a5, rfl, rfl⟩, r2, r3⟩⟩⟩
noncomputable def isBoolV (x : Bool) (N : Nat) (v : AV) (s : ES) : Bool :=
  match v with
  | .b y => cond (x == y) (Nat.ble s.nx N) false
  | _ => false
theorem isBoolV_some {x : Bool} {N : Nat} {v : AV} {s : ES} (h : isBoolV x N v s = true) : v = .b x ∧ s.nx ≤ N := by
  unfold isBoolV at h
  split at h
  · rename_i y
    cases hx : (x == y) with
    | true =>
      rw [hx] at h
      have : x = y := by simpa using hx
      subst this
      exact ⟨rfl, Nat.le_of_ble_eq_true h⟩
    | false => rw [hx] at h; cases h
  · cases h
noncomputable def isBoolA (x : Bool) (N : Nat) (a : Ans) : Bool :=
  Ans.rec (motive := fun _ => Bool) (fun v s => isBoolV x N v s) (fun _ _ _ => false) (fun _ _ ia ib => cond ia ib false) a
noncomputable def isBool (x : Bool) (N : Nat) (r : Res) : Bool :=
  match r with
  | some a => isBoolA x N a
  | none => false
theorem isBoolA_some {x : Bool} {N : Nat} : ∀ {a : Ans}, isBoolA x N a = true → ∀ v s, Leaf (.ret v s) a → v = .b x ∧ s.nx ≤ N
  | .ret v0 s0, h, v, s, hl => by
    have h : isBoolV x N v0 s0 = true := h
    have hl : Ans.ret v s = Ans.ret v0 s0 := hl
    injection hl with e1 e2
    subst e1 e2
    exact isBoolV_some h
  | .ex _ _ _, h, v, s, hl => by cases hl
  | .two a b, h, v, s, hl => by
    have h : cond (isBoolA x N a) (isBoolA x N b) false = true := h
    cases ha : isBoolA x N a with
    | false => rw [ha] at h; cases h
    | true =>
      rw [ha] at h
      rcases hl with hl | hl
      · exact isBoolA_some ha v s hl
      · exact isBoolA_some h v s hl
theorem isBool_some {x : Bool} {N : Nat} {r : Res} (h : isBool x N r = true) : ∃ a, r = some a ∧ ∀ v σ, RetIn a v σ → v = .b x ∧ σ.2 ≤ N := by
  unfold isBool at h
  split at h
  · rename_i a
    refine ⟨a, rfl, fun v σ ⟨s, h1, h2⟩ => ?_⟩
    obtain ⟨q1, q2⟩ := isBoolA_some h v s h1
    subst h2
    exact ⟨q1, q2⟩
  · cases h
noncomputable def knownF (x : Bool) (N : Nat) : Fun := fun R args s =>
  match args with
  | [] => (match s with
    | ⟨t, n, m⟩ => cond (Nat.beq n 0) (cond (Nat.beq m 0) (some (.ret (.b x) ⟨.e, 0, N⟩)) none) none)
  | _ => none
theorem knownF_ok {P : Prg} {g : FuncId} {x : Bool} {N : Nat} {R : Rec} (hR : RecOk P R) (h : isBool x N (R.h g [] ⟨.e, 0, 0⟩) = true) : SOk P g (knownF x N) := by
  intro R' _ args s a hh
  obtain ⟨a1, e1, e2⟩ := isBool_some h
  have hc := hR.h _ _ _ _ e1
  unfold knownF at hh
  split at hh
  · split at hh
    rename_i t n m
    obtain ⟨hn, hh⟩ := cond_some hh
    obtain ⟨hm, hh⟩ := cond_some hh
    have hn := Nat.eq_of_beq_eq_true hn
    have hm := Nat.eq_of_beq_eq_true hm
    subst hn hm
    cases hh
    exact (ACall.forget (hc.mono fun v' σ' hk => e2 _ _ hk)).mono fun v' σ' hk => ⟨⟨.e, 0, N⟩, show Ans.ret v' _ = _ by rw [hk.1], hk.2.symm⟩
  · cases hh
end Hb
end

section
set_option linter.unusedVariables false
set_option linter.unusedSimpArgs false
set_option linter.constructorNameAsVariable false
set_option autoImplicit false
set_option linter.unusedVariables false
set_option linter.unusedSimpArgs false
namespace Hb
open Go
noncomputable def flat (v : AV) : Bool :=
  match v with
  | .i _ _ => true
  | .b _ => true
  | .s _ => true
  | _ => false
theorem flat_rep {c c' : Cx} {x : AV} {v : Value} (h : flat x = true) (hr : RepV c x v) : RepV c' x v := by
  cases x <;> first | (cases h; done) | (simpa only [RepV] using hr)
noncomputable def colA (f : AV → ES → Option AV) (a : Ans) : Option AV :=
  Ans.rec (motive := fun _ => Option AV) (fun v s => f v s) (fun _ _ _ => none) (fun _ _ ia ib => match ia, ib with
    | some x, some y => cond (avEq x y) (some x) none
    | _, _ => none) a
theorem colA_some {f : AV → ES → Option AV} {key : AV} : ∀ {a : Ans}, colA f a = some key → ∀ v s, Leaf (.ret v s) a → f v s = some key
  | .ret v0 s0, h, v, s, hl => by
    have hl : Ans.ret v s = Ans.ret v0 s0 := hl
    injection hl with e1 e2
    subst e1 e2
    exact h
  | .ex _ _ _, h, v, s, hl => by cases h
  | .two x y, h, v, s, hl => by
    have h : (match colA f x, colA f y with
      | some x, some y => cond (avEq x y) (some x) none
      | _, _ => none) = some key := h
    cases hx : colA f x with
    | none => rw [hx] at h; cases h
    | some kx =>
      cases hy : colA f y with
      | none => rw [hx, hy] at h; cases h
      | some ky =>
        rw [hx, hy] at h
        simp only at h
        cases he : avEq kx ky with
        | false => rw [he] at h; cases h
        | true =>
          rw [he] at h
          cases h
          have e := avEq_eq he
          subst e
          rcases hl with hl | hl
          · exact colA_some hx v s hl
          · exact colA_some hy v s hl
theorem flat_at {c c' : Cx} (hw : c'.w = c.w) : ∀ {cs : List AV} {b off : Nat}, (∀ x ∈ cs, flat x = true) → RepAt c b off cs → RepAt c' b off cs
  | [], b, off, h, hr => by simp only [RepAt]
  | x :: xs, b, off, h, hr => by
    simp only [RepAt] at hr ⊢
    obtain ⟨⟨y, h1, h2, h3⟩, h4⟩ := hr
    exact ⟨⟨y, by rw [hw]; exact h1, h2, flat_rep (h x (by simp)) h3⟩, flat_at hw (fun x hx => h x (by simp [hx])) h4⟩
section
variable {P : Prg}
theorem take_in {c c1 : Cx} {B T fz : Nat} {cs : List AV} {arr : Array Value} {fzr : Nat × Nat} (hs1 : Sim P c1) (he : Ext c c1) (hn : ¬ c1.own B) (hB : c.w.heap.size ≤ B) (hf : ¬ c1.n0 B)
    (hh : c1.w.heap[B]? = some (.cells arr T fzr)) (hfz : fzOk fzr fz 0 arr.size) (hl : cs.length ≤ arr.size) (hat : ∀ c' : Cx, c'.w = c1.w → RepAt c' B 0 cs) :
    ∃ c2 : Cx, c2.w = c1.w ∧ c2.st = (c1.σ ++ [some (.cells c1.nx false T fz cs)], c1.nx + 1) ∧ Sim P c2 ∧ Ext c c2 ∧ Ext0 c1 c2 ∧ c2.loc c1.σ.length = (B, 0) ∧ (∀ b, c2.own b → c1.own b ∨ b = B) ∧ c2.n0 = c1.n0 := by
  let c2 : Cx := ⟨c1.w, c1.σ ++ [some (.cells c1.nx false T fz cs)], upd c1.loc c1.σ.length (B, 0), c1.nx + 1, c1.n0⟩
  have hget : ∀ {q b}, c2.σ[q]? = some (some b) → (q < c1.σ.length ∧ c1.σ[q]? = some (some b)) ∨ (q = c1.σ.length ∧ b = .cells c1.nx false T fz cs) := fun h => push_get h
  have e0 : Ext0 c1 c2 := ⟨fun _ _ => rfl, fun q b hq hlt => by
    rcases hget hq with ⟨h1, h2⟩ | ⟨rfl, rfl⟩
    · exact ⟨b, h2, rfl, rfl, fun _ => by simp only [c2]; rw [upd_ne _ _ (by omega)]⟩
    · exfalso; exact absurd hlt (Nat.lt_irrefl _), Nat.le_succ _, fun b arr T fz h => ⟨arr, fz, h, rfl⟩, fun _ h => h⟩
  have hown : ∀ b, c2.own b → c1.own b ∨ b = B := by
    rintro b ⟨q, blk, h1, h2, h3⟩
    rcases hget h1 with ⟨k1, k2⟩ | ⟨rfl, rfl⟩
    · left
      exact ⟨q, blk, k2, h2, by rw [← h3]; simp only [c2]; rw [upd_ne _ _ (by omega)]⟩
    · right
      rw [← h3]; simp [c2]
  refine ⟨c2, rfl, rfl, ?_, ?_, e0, by simp [c2], hown, rfl⟩
  · refine hs1.gen0 e0 (fun _ h => .inl h) (fun r b h1 h2 => hs1.lt h1 h2) hs1.n0 fun q b hq => ?_
    rcases hget hq with ⟨h1, h2⟩ | ⟨rfl, rfl⟩
    · exact .inl ⟨h2, by simp only [c2]; rw [upd_ne _ _ (by omega)], fun _ => rfl⟩
    · refine .inr ⟨?_, Nat.lt_succ_self _, fun _ => ⟨?_, fun q2 b2 hne h2 hv2 => ?_⟩⟩
      · simp only [BlkRep]
        have hι : c2.loc c1.σ.length = (B, 0) := by simp [c2]
        exact ⟨fun h => (by cases h), fun _ => by rw [hι]; exact ⟨arr, fzr, hh, hfz, by simpa using hl, hat c2 rfl⟩⟩
      · show ¬ c1.n0 (upd c1.loc c1.σ.length (B, 0) c1.σ.length).1
        rw [upd_same]
        exact hf
      · rcases hget h2 with ⟨k1, k2⟩ | ⟨rfl, _⟩
        · show (upd c1.loc c1.σ.length (B, 0) q2).1 ≠ (upd c1.loc c1.σ.length (B, 0) c1.σ.length).1
          rw [upd_same, upd_ne _ _ (by omega)]
          exact fun e => hn ⟨q2, b2, k2, hv2, e⟩
        · exact absurd rfl hne
  · refine ⟨fun b hb hnb => he.keep b hb hnb, fun b hb hob => ?_, he.size, fun q b hq hlt => ?_, Nat.le_trans he.nx (Nat.le_succ _), he.sz, he.os, he.tape, he.output, he.n0, he.new0, he.keep0⟩
    · rcases hown b hob with h | h
      · exact he.own b hb h
      · omega
    · rcases hget hq with ⟨h1, h2⟩ | ⟨rfl, rfl⟩
      · obtain ⟨blk, k1, k2, k3, k4⟩ := he.live q b h2 hlt
        exact ⟨blk, k1, k2, k3, fun hv => by simp only [c2]; rw [upd_ne _ _ (by omega)]; exact k4 hv⟩
      · exfalso
        have : c1.nx < c.nx := hlt
        have := he.nx
        omega
theorem row_val {c1 c2 : Cx} {r1 st1 r' x n T : Nat} {cs : List AV} {st' : Nat} {v : Value} (hv : RepV c1 (.gr r1 st1 0 n 1) v) (hat : c1.σ.at r1 st1 = some (.cells st' false T 0 cs))
    (hw : c2.w = c1.w) (hι : c2.loc r' = c1.loc r1) (hx : x < c2.nx) (hat2 : ∀ blk, c2.σ.at r' x = some blk → blk.virt = false) : RepV c2 (.gr r' x 0 n 1) v := by
  simp only [RepV] at hv ⊢
  obtain ⟨h1, h2, h3⟩ := hv
  refine ⟨h1, hx, fun blk hb => ⟨fun hv => (by rw [hat2 blk hb] at hv; cases hv), fun _ => ?_⟩⟩
  obtain ⟨off, cap, arr, T', fz, k1, k2, k3, k4⟩ := (h3 _ hat).2 rfl
  rw [hι]
  exact ⟨off, cap, arr, T', fz, k1, k2, by rw [hw]; exact k3, k4⟩
end
end Hb
end

section
set_option linter.unusedVariables false
set_option linter.unusedSimpArgs false
set_option linter.constructorNameAsVariable false
set_option autoImplicit false
set_option linter.unusedVariables false
namespace Hb
open Go
noncomputable def preR (m l : List Nat) : Bool :=
  List.rec (motive := fun _ => List Nat → Bool) (fun _ => true) (fun a _ ih l => List.casesOn l false (fun b t => cond (Nat.beq a b) (ih t) false)) m l
theorem preR_eq : ∀ {m l : List Nat}, (∀ x ∈ m, x < 256) → (∀ x ∈ l, x < 256) → preR m l = (m.map UInt8.ofNat).isPrefixOf (l.map UInt8.ofNat)
  | [], l, _, _ => by simp [preR]
  | a :: m, [], _, _ => by
    have : preR (a :: m) [] = false := rfl
    rw [this]; rfl
  | a :: m, b :: l, h1, h2 => by
    have : preR (a :: m) (b :: l) = cond (Nat.beq a b) (preR m l) false := rfl
    rw [this, preR_eq (fun x hx => h1 x (by simp [hx])) (fun x hx => h2 x (by simp [hx])), beqN]
    simp only [List.map_cons, List.isPrefixOf]
    have e : (UInt8.ofNat a == UInt8.ofNat b) = decide (a = b) := by
      rw [Bool.eq_iff_iff, beq_iff_eq, decide_eq_true_eq]
      exact ofNat_inj (h1 a (by simp)) (h2 b (by simp))
    rw [e]
    by_cases h : a = b <;> simp [h]
noncomputable def sIdx (m : List Nat) : List Nat → Option Nat
  | [] => none
  | a :: l => cond (preR m (a :: l)) (some 0) ((sIdx m l).map (· + 1))
noncomputable def sidxK (l m : List Nat) (k : KP) : Res :=
  List.rec (motive := fun _ => Nat → Res) (fun _ => k (.i .i64 (.negSucc 0))) (fun a t ih i => cond (preR m (a :: t)) (frcN i fun i => k (.i .i64 (.ofNat i))) (ih (Nat.add i 1))) l 0
theorem sidxK_eq (l m : List Nat) (k : KP) : sidxK l m k = k (.i .i64 (match sIdx m l with | some i => (i : Int) | none => -1)) := by
  have : ∀ (l : List Nat) (i : Nat), (List.rec (motive := fun _ => Nat → Res) (fun _ => k (.i .i64 (.negSucc 0))) (fun a t ih i => cond (preR m (a :: t)) (frcN i fun i => k (.i .i64 (.ofNat i))) (ih (Nat.add i 1))) l : Nat → Res) i =
      k (.i .i64 (match sIdx m l with | some j => ((i + j : Nat) : Int) | none => -1)) := by
    intro l
    induction l with
    | nil => intro i; rfl
    | cons a l ih =>
      intro i
      show cond (preR m (a :: l)) (frcN i fun i => k (.i .i64 (.ofNat i))) _ = _
      rw [frcN_eq, ih]
      simp only [sIdx]
      cases preR m (a :: l) with
      | true => rfl
      | false =>
        simp only [cond_false]
        cases sIdx m l with
        | none => rfl
        | some j =>
          simp only [Option.map_some]
          rw [show Nat.add i 1 + j = i + (j + 1) from by show i + 1 + j = _; omega]
  have h := this l 0
  simp only [Nat.zero_add] at h
  exact h
theorem sIdx_index {m : List Nat} (hm : ∀ x ∈ m, x < 256) (hm0 : m ≠ []) : ∀ {l : List Nat}, (∀ x ∈ l, x < 256) → Lib.index (l.map UInt8.ofNat) (m.map UInt8.ofNat) = (match sIdx m l with | some i => (i : Int) | none => -1)
  | [], _ => by
    cases m with
    | nil => exact absurd rfl hm0
    | cons a m => rfl
  | a :: l, h => by
    have ih := sIdx_index hm hm0 (l := l) (fun x hx => h x (by simp [hx]))
    have hp := preR_eq hm h
    simp only [List.map_cons, Lib.index] at hp ⊢
    rw [← hp, ih]
    simp only [sIdx]
    cases preR m (a :: l) with
    | true => rfl
    | false =>
      simp only [cond_false, Bool.false_eq_true, if_false]
      cases sIdx m l with
      | none => rfl
      | some j =>
        have : (((j : Int) == -1) = false) := by rw [beq_eq_false_iff_ne]; omega
        simp [this]
noncomputable def xIndexStr (args : List AV) (s : ES) : Res :=
  match args with
  | [.s l, .s m] => cond (Nat.ble 2 (lenR m)) (cond (Nat.ble (lenR m) 63) (cond (Nat.ble (lenR l) 1000000) (sidxK l m fun v => some (.ret v s)) none) none) none
  | _ => none
theorem xIndexStr_ok {P : Prg} {f g : FuncId} (hf : ExtIs P f Extern.BytealgIndex.index) (hg : P.globals.findIdx? (·.name == "internal/bytealg.MaxLen") = some g) (hgl : P.glob g = some [.i .i64 63]) : EOkX P f xIndexStr := by
  intro args s a h
  unfold xIndexStr at h
  split at h
  · rename_i l m
    obtain ⟨h1, h⟩ := cond_some h
    obtain ⟨h2, h⟩ := cond_some h
    obtain ⟨h3, h⟩ := cond_some h
    have h1 := Nat.le_of_ble_eq_true h1
    have h2 := Nat.le_of_ble_eq_true h2
    have h3 := Nat.le_of_ble_eq_true h3
    rw [lenR_eq] at h1 h2 h3
    rw [sidxK_eq] at h
    cases h
    intro c vs hσ hs hr
    obtain ⟨fn, q1, q2, q3, q4, q5⟩ := hf
    simp only [RepL, RepV] at hr
    obtain ⟨y, ys, rfl, ⟨rfl, hl⟩, y2, ys2, rfl, ⟨rfl, hm⟩, rfl⟩ := hr
    obtain ⟨_, hc⟩ := hs.glob g _ hgl
    simp only [RepAt, RepV] at hc
    obtain ⟨⟨u, hc, _, rfl⟩, _⟩ := hc
    refine ⟨c, .int .i64 (Lib.index (bs l).data.toList (bs m).data.toList), _, ?_, hs, Ext.refl c, ?_, s, rfl, hσ.symm⟩
    · rw [run_callFunc_extern q1 q2 q3 q4 q5]
      have := Lib.run_indexString (P := P.toProgram) (bs l) (bs m) c.w g 63 hg hc (by rw [bs_size]; omega) (by rw [bs_size]; omega) (by rw [bs_size]; omega)
      simp only [this]
      rfl
    · simp only [RepV]
      have e := sIdx_index hm (by intro e; rw [e] at h1; simp at h1) hl
      congr 1
  · cases h
end Hb
end

section
set_option linter.unusedVariables false
set_option linter.unusedSimpArgs false
set_option linter.constructorNameAsVariable false
set_option autoImplicit false
set_option linter.unusedVariables false
set_option linter.unusedSimpArgs false
namespace Hb
open Go
section
variable {P : Prg}
theorem frame_back {c c1 : Cx} {r st T fz : Nat} {cs : List AV} (hs : Sim P c) {σ0 : Store} (h0 : Less σ0 c.σ) (hone : ∀ q b, σ0[q]? = some (some b) → q = r)
    (hr : c.σ[r]? = some (some (.cells st false T fz cs))) (hfl : ∀ x ∈ cs, flat x = true) (he : Ext { c with σ := σ0 } c1) (hs1 : Sim P c1) (hr1 : c1.σ[r]? = some (some (.cells st false T fz cs))) :
    Sim P ⟨c1.w, c.σ, c.loc, c.nx, c1.n0⟩ ∧ Ext c ⟨c1.w, c.σ, c.loc, c.nx, c1.n0⟩ := by
  have hst : st < c.nx := (hs.blk r _ hr).2
  have hι : c1.loc r = c.loc r := by
    obtain ⟨blk, q1, q2, q3, q4⟩ := he.live r _ hr1 hst
    have : blk.virt = false := q3
    exact q4 this
  have hown : ∀ b, c.own b → ¬ ({ c with σ := σ0 } : Cx).own b ∨ b = (c.loc r).1 := by
    intro b hb
    by_cases hb' : ({ c with σ := σ0 } : Cx).own b
    · obtain ⟨q, blk, q1, q2, q3⟩ := hb'
      have := hone q blk q1
      subst this
      exact .inr q3.symm
    · exact .inl hb'
  have e0 : Ext0 c ⟨c1.w, c.σ, c.loc, c.nx, c1.n0⟩ := ⟨fun b hb => he.keep0 b hb, fun q blk hq _ => ⟨blk, hq, rfl, rfl, fun _ => rfl⟩, Nat.le_refl _, fun b arr T fz h => he.sz b arr T fz h, he.n0⟩
  have hkeep : ∀ q b, c.σ[q]? = some (some b) → b.virt = false → q ≠ r → c1.w.heap[(c.loc q).1]? = c.w.heap[(c.loc q).1]? := by
    intro q b hq hv hne
    refine he.keep ((c.loc q).1) (hs.lt hq hv) ?_
    rintro ⟨q', b', h1, h2, h3⟩
    have e1 := hone q' b' h1
    subst e1
    exact hne (hs.inj q q' b b' hq (h0 q' b' h1) hv h2 h3.symm)
  refine ⟨⟨fun q b hq => ⟨?_, (hs.blk q b hq).2⟩, fun q q' b b' h1 h2 h3 h4 h5 => hs.inj q q' b b' h1 h2 h3 h4 h5, fun q b h1 h2 hc => (he.new0 _ hc).elim (hs.base q b h1 h2) (fun h => Nat.lt_irrefl _ (Nat.lt_of_lt_of_le (hs.lt h1 h2) h)), hs1.n0, fun g l hg => ?_⟩, ?_⟩
  · by_cases hqr : q = r
    · subst hqr
      rw [hr] at hq
      cases hq
      obtain ⟨b1, _⟩ := hs1.blk q _ hr1
      simp only [BlkRep] at b1 ⊢
      refine ⟨b1.1, fun hv => ?_⟩
      obtain ⟨arr, fzr, k1, k2, k3, k4⟩ := b1.2 hv
      rw [hι] at k1 k2 k3 k4
      exact ⟨arr, fzr, k1, k2, k3, flat_at (c := c1) (c' := ⟨c1.w, c.σ, c.loc, c.nx, c1.n0⟩) rfl hfl k4⟩
    · exact (hs.blk q b hq).1.same0 e0 rfl (fun hv => hkeep q b hq hv hqr)
  · obtain ⟨h1, h2⟩ := hs.glob g l hg
    exact ⟨he.n0 _ h1, h2.same0 e0 (he.keep0 g h1)⟩
  · exact ⟨fun b hb hn => he.keep b hb (fun ⟨q, blk, q1, q2, q3⟩ => hn ⟨q, blk, h0 q blk q1, q2, q3⟩), fun b _ h => h, he.size, fun q blk hq _ => ⟨blk, hq, rfl, rfl, fun _ => rfl⟩, Nat.le_refl _, fun b arr T fz h => he.sz b arr T fz h, he.os, he.tape, he.output, he.n0, he.new0, fun b hb => he.keep0 b hb⟩
end
noncomputable def flatL (l : List AV) : Bool := List.rec (motive := fun _ => Bool) true (fun a _ ih => cond (flat a) ih false) l
theorem flatL_mem : ∀ {l : List AV}, flatL l = true → ∀ x ∈ l, flat x = true
  | [], _, x, hx => by cases hx
  | a :: l, h, x, hx => by
    have h : cond (flat a) (flatL l) false = true := h
    cases ha : flat a with
    | false => rw [ha] at h; cases h
    | true =>
      rw [ha] at h
      rcases List.mem_cons.1 hx with rfl | hx
      · exact ha
      · exact flatL_mem h x hx
noncomputable def rowKey (s : ES) (r0 : Nat) (v : AV) : Option (Nat × Nat × List AV) :=
  match v with
  | .gr r st i n k => cond (Nat.beq i 0) (cond (Nat.beq k 1) (cond (Nat.beq r r0) none (match s.at r st with
    | some (.cells _ false T fz cs) => cond (Nat.beq fz 0) (cond (flatL cs) (some (n, T, cs)) none) none
    | _ => none)) none) none
  | _ => none
noncomputable def refNo (v : AV) : Nat :=
  match v with
  | .gr r _ _ _ _ => r
  | _ => 0
noncomputable def sameBlk (s : ES) (r st T fz : Nat) (cs : List AV) : Bool :=
  match s.at r st with
  | some (.cells _ false T' fz' cs') => cond (Nat.beq T' T) (cond (Nat.beq fz' fz) (avEq (.agg cs') (.agg cs)) false) false
  | _ => false
noncomputable def leafKey (r st T fz : Nat) (cs : List AV) (v : AV) (s : ES) : Option AV :=
  match v with
  | .tup [x, y] => cond (sameBlk s r st T fz cs) (cond (Nat.beq (refNo x) (refNo y)) none (match rowKey s r x, rowKey s r y with
    | some (n1, T1, c1), some (n2, T2, c2) => some (.tup [.i .i64 (.ofNat n1), .i .i64 (.ofNat T1), .agg c1, .i .i64 (.ofNat n2), .i .i64 (.ofNat T2), .agg c2])
    | _, _ => none)) none
  | _ => none
noncomputable def twoRows (b : Fun) : Fun := fun R args s =>
  match args with
  | [.gr r st i n kk] => sAt s r st fun blk => elC blk fun st' T fz cs => cond (flatL cs) (match b R [.gr r st i n kk] ⟨setR .e r (some (.cells st' false T fz cs)), s.n, s.nx⟩ with
    | some a => (match colA (leafKey r st T fz cs) a with
      | some (.tup [.i _ (.ofNat n1), .i _ (.ofNat T1), .agg c1, .i _ (.ofNat n2), .i _ (.ofNat T2), .agg c2]) =>
        pPush s (fun x => .cells x false T1 0 c1) fun r1 x1 s1 => pPush s1 (fun x => .cells x false T2 0 c2) fun r2 x2 s2 => some (.ret (.tup [.gr r1 x1 0 n1 1, .gr r2 x2 0 n2 1]) s2)
      | _ => none)
    | none => none) none
  | _ => none
theorem small_st (s : ES) {r : Nat} {blk : Blk} (hr : s.st.1[r]? = some (some blk)) :
    Less (⟨setR .e r (some blk), s.n, s.nx⟩ : ES).st.1 s.st.1 ∧ (∀ q b, (⟨setR .e r (some blk), s.n, s.nx⟩ : ES).st.1[q]? = some (some b) → q = r) ∧ (⟨setR .e r (some blk), s.n, s.nx⟩ : ES).st.2 = s.st.2 ∧
      (⟨setR .e r (some blk), s.n, s.nx⟩ : ES).st.1[r]? = some (some blk) := by
  have hlt : r < s.n := by
    have := lt_of_get hr
    rw [ES.len] at this
    exact this
  have hg : ∀ q, (⟨setR .e r (some blk), s.n, s.nx⟩ : ES).st.1[q]? = if q < s.n then some (if q = r then some blk else none) else none := by
    intro q
    rw [ES.get?]
    simp only [setR_eq, TR.get_set]
    have : TR.get .e q = none := TR.getP_e _
    rw [this]
  refine ⟨fun q b hq => ?_, fun q b hq => ?_, rfl, by rw [hg, if_pos hlt, if_pos rfl]⟩
  · rw [hg] at hq
    split at hq
    · split at hq
      · rename_i h; subst h
        simp only [Option.some.injEq] at hq
        subst hq
        exact hr
      · cases hq
    · cases hq
  · rw [hg] at hq
    split at hq
    · split at hq
      · assumption
      · cases hq
    · cases hq
theorem rowKey_some {s : ES} {r0 n T : Nat} {v : AV} {cs : List AV} (h : rowKey s r0 v = some (n, T, cs)) : ∃ r st, v = .gr r st 0 n 1 ∧ r ≠ r0 ∧ (∃ st', s.st.1.at r st = some (.cells st' false T 0 cs)) ∧ (∀ x ∈ cs, flat x = true) := by
  unfold rowKey at h
  split at h
  · rename_i r st i n' k
    cases hi : Nat.beq i 0 with
    | false => rw [hi] at h; cases h
    | true =>
    cases hk : Nat.beq k 1 with
    | false => rw [hi, hk] at h; cases h
    | true =>
    cases hr : Nat.beq r r0 with
    | true => rw [hi, hk, hr] at h; cases h
    | false =>
    rw [hi, hk, hr] at h
    simp only [cond_true, cond_false] at h
    split at h
    · rename_i st' T' fz' cs' hb
      cases hf : Nat.beq fz' 0 with
      | false => rw [hf] at h; cases h
      | true =>
      cases hl : flatL cs' with
      | false => rw [hf, hl] at h; cases h
      | true =>
      rw [hf, hl] at h
      simp only [cond_true] at h
      cases h
      have e1 := Nat.eq_of_beq_eq_true hi
      have e2 := Nat.eq_of_beq_eq_true hk
      have e3 := Nat.eq_of_beq_eq_true hf
      subst e1 e2 e3
      rw [ES.at_eq] at hb
      exact ⟨r, st, rfl, fun e => (by subst e; rw [Nat.beq_refl] at hr; cases hr), ⟨st', hb⟩, flatL_mem hl⟩
    · cases h
  · cases h
theorem sameBlk_some {s : ES} {r st T fz : Nat} {cs : List AV} (h : sameBlk s r st T fz cs = true) : ∃ st', s.st.1.at r st = some (.cells st' false T fz cs) := by
  unfold sameBlk at h
  split at h
  · rename_i st' T' fz' cs' hb
    cases h1 : Nat.beq T' T with
    | false => rw [h1] at h; cases h
    | true =>
    cases h2 : Nat.beq fz' fz with
    | false => rw [h1, h2] at h; cases h
    | true =>
    rw [h1, h2] at h
    have e := avEq_eq (show avEq (.agg cs') (.agg cs) = true from h)
    cases e
    have e1 := Nat.eq_of_beq_eq_true h1
    have e2 := Nat.eq_of_beq_eq_true h2
    subst e1 e2
    rw [ES.at_eq] at hb
    exact ⟨st', hb⟩
  · cases h
theorem leafKey_some {s : ES} {r st T fz n1 T1 n2 T2 : Nat} {cs c1 c2 : List AV} {v : AV} {k1 k2 k3 k4 : IntKind}
    (h : leafKey r st T fz cs v s = some (.tup [.i k1 (.ofNat n1), .i k2 (.ofNat T1), .agg c1, .i k3 (.ofNat n2), .i k4 (.ofNat T2), .agg c2])) :
    (∃ st', s.st.1.at r st = some (.cells st' false T fz cs)) ∧ ∃ r1 st1 r2 st2, v = .tup [.gr r1 st1 0 n1 1, .gr r2 st2 0 n2 1] ∧ r1 ≠ r ∧ r2 ≠ r ∧ r1 ≠ r2 ∧
      (∃ st', s.st.1.at r1 st1 = some (.cells st' false T1 0 c1)) ∧ (∀ x ∈ c1, flat x = true) ∧ (∃ st', s.st.1.at r2 st2 = some (.cells st' false T2 0 c2)) ∧ (∀ x ∈ c2, flat x = true) := by
  unfold leafKey at h
  split at h
  · rename_i x y
    cases hs : sameBlk s r st T fz cs with
    | false => rw [hs] at h; cases h
    | true =>
    cases hd : Nat.beq (refNo x) (refNo y) with
    | true => rw [hs, hd] at h; cases h
    | false =>
    rw [hs, hd] at h
    simp only [cond_true, cond_false] at h
    split at h
    · rename_i m1 U1 d1 m2 U2 d2 hx hy
      simp only [Option.some.injEq, AV.tup.injEq, List.cons.injEq, AV.i.injEq, Int.ofNat_eq_natCast, Int.natCast_inj, AV.agg.injEq, and_true] at h
      obtain ⟨⟨_, rfl⟩, ⟨_, rfl⟩, rfl, ⟨_, rfl⟩, ⟨_, rfl⟩, rfl⟩ := h
      obtain ⟨r1, st1, rfl, a1, a2, a3⟩ := rowKey_some hx
      obtain ⟨r2, st2, rfl, b1, b2, b3⟩ := rowKey_some hy
      exact ⟨sameBlk_some hs, r1, st1, r2, st2, rfl, a1, b1, fun e => (by subst e; rw [show Nat.beq (refNo (.gr r1 st1 0 m1 1)) (refNo (.gr r1 st2 0 m2 1)) = Nat.beq r1 r1 from rfl, Nat.beq_refl] at hd; cases hd), a2, a3, b2, b3⟩
    · cases h
  · cases h
section
variable {P : Prg}
theorem twoRows_ok {g : FuncId} {b : Fun} (hb : SOk P g b) : SOk P g (twoRows b) := by
  intro R hR args s a h
  unfold twoRows at h
  split at h
  case h_2 => cases h
  rename_i r st i n kk
  obtain ⟨blk, hat, h⟩ := sAt_some h
  rw [elC_def] at h
  split at h
  case h_2 => cases h
  rename_i st' T fz cs
  cases hfl : flatL cs with
  | false => rw [hfl] at h; cases h
  | true =>
  rw [hfl] at h
  simp only [cond_true] at h
  have hcs := flatL_mem hfl
  obtain ⟨hr, hst'⟩ := Store.at_some hat
  have hst' : st' = st := hst'
  subst hst'
  obtain ⟨m1, m2, m3, m4⟩ := small_st s hr
  split at h
  case h_2 => cases h
  rename_i a0 ha0
  have hcall := hb R hR _ _ _ ha0
  split at h
  case h_2 => cases h
  rename_i k1 n1 k2 T1 c1s k3 n2 k4 T2 c2s hkey
  obtain ⟨s1, hs1, h⟩ := pPush_some h
  obtain ⟨s2, hs2, h⟩ := pPush_some h
  cases h
  refine ⟨hcall.1, fun c vs hc hs hrl => ?_⟩
  let c0 : Cx := { c with σ := (⟨setR .e r (some (.cells st' false T fz cs)), s.n, s.nx⟩ : ES).st.1 }
  have hσ : c.σ = s.st.1 := congrArg Prod.fst hc
  have hnx : c.nx = s.st.2 := congrArg Prod.snd hc
  have hl0 : Less c0.σ c.σ := by rw [hσ]; exact m1
  have hc0 : c0.st = (⟨setR .e r (some (.cells st' false T fz cs)), s.n, s.nx⟩ : ES).st := by
    show (_, c.nx) = _
    rw [hnx, ← m3]
  have hrun := hcall.2 c0 vs hc0 (hs.less hl0) (RepL.mono (Ext.less hl0) _ _ hrl)
  refine ⟨hrun.1, fun cs0 hcs0 => ?_⟩
  obtain ⟨e, w', fr, ⟨c1, v, av, rfl, rfl, hsim, hext, hrv, hk⟩, q2, q3⟩ := hrun.2 cs0 hcs0
  refine ⟨_, c1.w, fr, ?_, q2, q3⟩
  obtain ⟨sl, hleaf, hsl⟩ := hk
  obtain ⟨⟨stx, hrb⟩, r1, st1, r2, st2, rfl, g1, g2, g3, ⟨sa, ga⟩, fa, ⟨sb, gb⟩, fb⟩ := leafKey_some (colA_some hkey av sl hleaf)
  have hσ1 : c1.σ = sl.st.1 := (congrArg Prod.fst hsl).symm
  rw [← hσ1] at hrb ga gb
  obtain ⟨hrb1, hstx⟩ := Store.at_some hrb
  have hstx : stx = st' := hstx
  subst hstx
  obtain ⟨ga1, _⟩ := Store.at_some ga
  obtain ⟨gb1, _⟩ := Store.at_some gb
  have hrc : c.σ[r]? = some (some (.cells stx false T fz cs)) := by rw [hσ]; exact hr
  obtain ⟨hsim', hext'⟩ := frame_back hs hl0 m2 hrc hcs hext hsim hrb1
  have hst : stx < c.nx := (hs.blk r _ hrc).2
  have hιr : c1.loc r = c.loc r := by
    obtain ⟨blk, _, _, e3, e4⟩ := hext.live r _ hrb1 hst
    exact e4 e3
  have hnew : ∀ q b, c1.σ[q]? = some (some b) → b.virt = false → q ≠ r → c.w.heap.size ≤ (c1.loc q).1 := by
    intro q b hq hv hne
    rcases Nat.lt_or_ge ((c1.loc q).1) c.w.heap.size with hlt | hge
    · exfalso
      obtain ⟨q', b', z1, z2, z3⟩ := hext.own ((c1.loc q).1) hlt ⟨q, b, hq, hv, rfl⟩
      have e1 := m2 q' b' z1
      subst e1
      have z3 : (c.loc q').1 = (c1.loc q).1 := z3
      exact hne (hsim.inj q q' b _ hq hrb1 hv rfl (by rw [hιr, z3]))
    · exact hge
  have hB1 := hnew r1 _ ga1 rfl g1
  have hB2 := hnew r2 _ gb1 rfl g2
  have hnown : ∀ B, c.w.heap.size ≤ B → ¬ (⟨c1.w, c.σ, c.loc, c.nx, c1.n0⟩ : Cx).own B := by
    rintro B hB ⟨q, b, z1, z2, z3⟩
    have := hs.lt z1 z2
    have z3 : (c.loc q).1 = B := z3
    omega
  have hne : (c1.loc r2).1 ≠ (c1.loc r1).1 := fun e => g3 (hsim.inj r2 r1 _ _ gb1 ga1 rfl rfl e).symm
  obtain ⟨arr1, fzr1, p1, p2, p3, p4⟩ := (show BlkRep P c1 r1 (.cells sa false T1 0 c1s) from (hsim.blk r1 _ ga1).1).2 rfl
  obtain ⟨arr2, fzr2, o1, o2, o3, o4⟩ := (show BlkRep P c1 r2 (.cells sb false T2 0 c2s) from (hsim.blk r2 _ gb1).1).2 rfl
  have d1 := (p2.2 (by decide)).2
  have d2' := (o2.2 (by decide)).2
  rw [d1] at p2 p3 p4
  rw [d2'] at o2 o3 o4
  rw [Nat.zero_add] at p3 o3
  obtain ⟨d2, w2, t2, sim2, ext2, e02, ι2, own2, nz2⟩ := take_in (T := T1) hsim' hext' (hnown _ hB1) hB1 (hsim.base r1 _ ga1 rfl) p1 p2 p3 (fun c' hc' => flat_at (c := c1) hc' fa p4)
  have w2 : d2.w = c1.w := w2
  obtain ⟨d3, w3, t3, sim3, ext3, e03, ι3, own3, _⟩ := take_in (T := T2) sim2 ext2 (fun ho => (own2 _ ho).elim (hnown _ hB2) hne) hB2 (by rw [nz2]; exact hsim.base r2 _ gb1 rfl) (by rw [w2]; exact o1) o2 o3 (fun c' hc' => flat_at (c := c1) (hc'.trans w2) fb o4)
  have t2 : d2.st = s1.st := by rw [t2, hs1]; show (c.σ ++ [some (.cells c.nx false T1 0 c1s)], c.nx + 1) = _; rw [hσ, hnx]
  have t2σ : d2.σ = s1.st.1 := congrArg Prod.fst t2
  have t2n : d2.nx = s1.st.2 := congrArg Prod.snd t2
  have t3 : d3.st = s2.st := by rw [t3, hs2, t2σ, t2n]
  have t3σ : d3.σ = s2.st.1 := congrArg Prod.fst t3
  have t3n : d3.nx = s2.st.2 := congrArg Prod.snd t3
  have hs1l : s1.st.1.length = s.st.1.length + 1 := by rw [hs1]; simp
  have hd3 : d3.w = c1.w := w3.trans w2
  have hι1 : d3.loc s.st.1.length = c1.loc r1 := by
    have hq : d3.σ[s.st.1.length]? = some (some (.cells s.st.2 false T1 0 c1s)) := by
      rw [t3σ, hs2, List.getElem?_append_left (by omega), hs1]; simp
    have hlt : (Blk.cells s.st.2 false T1 0 c1s).st < d2.nx := by rw [t2n, hs1]; exact Nat.lt_succ_self _
    obtain ⟨blk, _, _, e3, e4⟩ := e03.live _ _ hq hlt
    rw [e4 e3]
    rw [← hσ]
    exact ι2.trans (Prod.ext rfl d1.symm)
  have hι2 : d3.loc s1.st.1.length = c1.loc r2 := by rw [← t2σ]; exact ι3.trans (Prod.ext rfl d2'.symm)
  simp only [RepV] at hrv
  obtain ⟨us, rfl, hu⟩ := hrv
  refine ⟨d3, .tuple us, .tup [.gr s.st.1.length s.st.2 0 n1 1, .gr s1.st.1.length s1.st.2 0 n2 1], rfl, hd3, sim3, ext3, ?_, ⟨s2, rfl, t3.symm⟩⟩
  simp only [RepV]
  refine ⟨us, rfl, ?_⟩
  simp only [RepL] at hu ⊢
  obtain ⟨y, ys, e1, ry, y2, ys2, e2, ry2, e3⟩ := hu
  refine ⟨y, ys, e1, ?_, y2, ys2, e2, ?_, e3⟩
  · refine row_val ry ga hd3 hι1 (by rw [t3n, hs2, hs1]; show s.st.2 < s.st.2 + 1 + 1; omega) fun blk hb => ?_
    obtain ⟨hb, _⟩ := Store.at_some hb
    rw [t3σ, hs2, List.getElem?_append_left (by omega), hs1] at hb
    simp at hb
    rw [← hb]; rfl
  · refine row_val ry2 gb hd3 hι2 (by rw [t3n, hs2]; exact Nat.lt_succ_self _) fun blk hb => ?_
    obtain ⟨hb, _⟩ := Store.at_some hb
    rw [t3σ, hs2] at hb
    simp at hb
    rw [← hb]; rfl
end
end Hb
end

section
set_option linter.unusedVariables false
set_option linter.unusedSimpArgs false
set_option linter.constructorNameAsVariable false
set_option autoImplicit false
set_option linter.unusedVariables false
namespace Hb
open Go
theorem ACall.cut {P : Prg} {g : FuncId} {args : List AV} {σ : St} {v1 : AV} {σ1 : Store} {N : Nat} (h : ACall P g args σ fun v' σ' => v' = v1 ∧ Less σ1 σ'.1 ∧ σ'.2 ≤ N) :
    ACall P g args σ fun v' σ' => v' = v1 ∧ σ' = (σ1, N) :=
  ⟨h.1, fun c vs h1 h2 h3 => let ⟨k1, k2⟩ := h.2 c vs h1 h2 h3
    ⟨k1, fun cs hr => by
      obtain ⟨e, w', fr, ⟨c', v, av, a1, a2, a3, a4, a5, a6, a7, a8⟩, r2, r3⟩ := k2 cs hr
      subst a6
      have hl : Less σ1 c'.σ := a7
      have hn : c'.nx ≤ N := a8
      have e1 := Ext.less hl
      have s1 := a3.less hl
      let c2 : Cx := { c' with σ := σ1 }
      let c3 : Cx := { c2 with nx := N }
      have e2 : Ext c2 c3 := ⟨fun _ _ _ => rfl, fun _ _ h => h, Nat.le_refl _, fun r blk h _ => ⟨blk, h, rfl, rfl, fun _ => rfl⟩, hn, fun b arr T fz h => ⟨arr, fz, h, rfl⟩, rfl, rfl, rfl, fun _ h => h, fun _ h => .inl h, fun _ _ => rfl⟩
      have s2 : Sim P c3 := Sim.gen s1 e2 fun r b hr => .inl ⟨hr, rfl, fun _ => rfl⟩
      exact ⟨e, w', fr, ⟨c3, v, _, a1, a2, s2, (a4.trans e1).trans e2, RepV.mono e2 _ _ (RepV.mono e1 _ _ a5), rfl, rfl⟩, r2, r3⟩⟩⟩
theorem ACall.pre {P : Prg} {g : FuncId} {args : List AV} {σ0 σ : Store} {nx : Nat} {K : AV → St → Prop} (hl : Less σ0 σ) (h : ACall P g args (σ0, nx) K) : ACall P g args (σ, nx) K :=
  ⟨h.1, fun c vs h1 h2 h3 => by
    have hσ : c.σ = σ := congrArg Prod.fst h1
    have hnx : c.nx = nx := congrArg Prod.snd h1
    have hl' : Less σ0 c.σ := by rw [hσ]; exact hl
    have e1 := Ext.less hl'
    obtain ⟨k1, k2⟩ := h.2 { c with σ := σ0 } vs (by show (σ0, c.nx) = _; rw [hnx]) (h2.less hl') (RepL.mono e1 _ _ h3)
    refine ⟨k1, fun cs hr => ?_⟩
    obtain ⟨e, w', fr, ⟨c', v, av, a1, a2, a3, a4, a5, a6⟩, r2, r3⟩ := k2 cs hr
    exact ⟨e, w', fr, ⟨c', v, av, a1, a2, a3, e1.trans a4, a5, a6⟩, r2, r3⟩⟩
noncomputable def litT (l : List (Nat × Blk)) : TR := List.rec (motive := fun _ => TR) .e (fun p _ ih => TR.set ih p.1 (some p.2)) l
theorem litT_mem : ∀ {l : List (Nat × Blk)} {q : Nat} {b : Blk}, (litT l).get q = some b → (q, b) ∈ l
  | [], q, b, h => by
    have : TR.get .e q = none := TR.getP_e _
    rw [show litT [] = .e from rfl, this] at h
    cases h
  | p :: l, q, b, h => by
    have h' : (if q = p.1 then some p.2 else (litT l).get q) = some b := (TR.get_set (some p.2) (litT l) p.1 q).symm.trans h
    by_cases e : q = p.1
    · rw [if_pos e] at h'
      cases h'
      rw [e]
      exact List.mem_cons_self
    · rw [if_neg e] at h'
      exact List.mem_cons_of_mem _ (litT_mem h')
noncomputable def eqE (l m : List (AV × AV × Nat)) : Bool :=
  List.rec (motive := fun _ => List (AV × AV × Nat) → Bool) (fun m => match m with | [] => true | _ => false)
    (fun x _ ih m => match m with | y :: m => cond (avEq x.1 y.1) (cond (avEq x.2.1 y.2.1) (cond (Nat.beq x.2.2 y.2.2) (ih m) false) false) false | _ => false) l m
theorem eqE_eq : ∀ {l m : List (AV × AV × Nat)}, eqE l m = true → l = m
  | [], [], _ => rfl
  | [], _ :: _, h => by cases h
  | _ :: _, [], h => by cases h
  | x :: l, y :: m, h => by
    have h : cond (avEq x.1 y.1) (cond (avEq x.2.1 y.2.1) (cond (Nat.beq x.2.2 y.2.2) (eqE l m) false) false) false = true := h
    cases h1 : avEq x.1 y.1 with
    | false => rw [h1] at h; cases h
    | true =>
    cases h2 : avEq x.2.1 y.2.1 with
    | false => rw [h1, h2] at h; cases h
    | true =>
    cases h3 : Nat.beq x.2.2 y.2.2 with
    | false => rw [h1, h2, h3] at h; cases h
    | true =>
    rw [h1, h2, h3] at h
    have e1 := avEq_eq h1
    have e2 := avEq_eq h2
    have e3 := Nat.eq_of_beq_eq_true h3
    have e4 := eqE_eq (l := l) (m := m) h
    obtain ⟨x1, x2, x3⟩ := x
    obtain ⟨y1, y2, y3⟩ := y
    simp only at e1 e2 e3
    rw [e1, e2, e3, e4]
noncomputable def blkEq (a b : Blk) : Bool :=
  match a, b with
  | .cells st v T fz cs, .cells st' v' T' fz' cs' => cond (v == v') (cond (Nat.beq st st') (cond (Nat.beq T T') (cond (Nat.beq fz fz') (avEq (.agg cs) (.agg cs')) false) false) false) false
  | .map st ck es, .map st' ck' es' => cond (Nat.beq st st') (cond (Nat.beq ck ck') (eqE es es') false) false
  | _, _ => false
theorem cond_true' {a b : Bool} (h : cond a b false = true) : a = true ∧ b = true := by
  cases a with
  | true => exact ⟨rfl, h⟩
  | false => cases h
theorem blkEq_eq {a b : Blk} (h : blkEq a b = true) : a = b := by
  unfold blkEq at h
  split at h
  · rename_i st v T fz cs st' v' T' fz' cs'
    obtain ⟨h1, h⟩ := cond_true' h
    obtain ⟨h2, h⟩ := cond_true' h
    obtain ⟨h3, h⟩ := cond_true' h
    obtain ⟨h4, h⟩ := cond_true' h
    have e1 : v = v' := by simpa using h1
    have e2 := Nat.eq_of_beq_eq_true h2
    have e3 := Nat.eq_of_beq_eq_true h3
    have e4 := Nat.eq_of_beq_eq_true h4
    have e5 := avEq_eq h
    cases e5
    rw [e1, e2, e3, e4]
  · rename_i st ck es st' ck' es'
    obtain ⟨h1, h⟩ := cond_true' h
    obtain ⟨h2, h⟩ := cond_true' h
    rw [Nat.eq_of_beq_eq_true h1, Nat.eq_of_beq_eq_true h2, eqE_eq h]
  · cases h
noncomputable def hasB (s : ES) (l : List (Nat × Blk)) : Bool :=
  List.rec (motive := fun _ => Bool) true (fun p _ ih => cond (match s.at p.1 p.2.st with | some b => blkEq b p.2 | none => false) ih false) l
theorem hasB_mem {s : ES} : ∀ {l : List (Nat × Blk)}, hasB s l = true → ∀ p ∈ l, s.st.1[p.1]? = some (some p.2)
  | [], _, p, hp => by cases hp
  | q :: l, h, p, hp => by
    have h : cond (match s.at q.1 q.2.st with | some b => blkEq b q.2 | none => false) (hasB s l) false = true := h
    obtain ⟨h1, h2⟩ := cond_true' h
    rcases List.mem_cons.1 hp with rfl | hp
    · split at h1
      · rename_i b hb
        rw [ES.at_eq] at hb
        rw [← blkEq_eq h1]
        exact (Store.at_some hb).1
      · cases h1
    · exact hasB_mem h2 p hp
theorem lit_less {s : ES} {l : List (Nat × Blk)} {n nx : Nat} (h : hasB s l = true) : Less (⟨litT l, n, nx⟩ : ES).st.1 s.st.1 := by
  intro q b hq
  rw [ES.get?] at hq
  split at hq
  · exact hasB_mem h (q, b) (litT_mem (Option.some.inj hq))
  · cases hq
noncomputable def chkA (v1 : AV) (bl : List (Nat × Blk)) (N : Nat) (a : Ans) : Bool :=
  Ans.rec (motive := fun _ => Bool) (fun v s => cond (avEq v v1) (cond (Nat.ble s.nx N) (hasB s bl) false) false) (fun _ _ _ => false) (fun _ _ ia ib => cond ia ib false) a
noncomputable def chk (v1 : AV) (bl : List (Nat × Blk)) (N : Nat) (r : Res) : Bool :=
  match r with
  | some a => chkA v1 bl N a
  | none => false
theorem chkA_some {v1 : AV} {bl : List (Nat × Blk)} {N : Nat} : ∀ {a : Ans}, chkA v1 bl N a = true → ∀ v s, Leaf (.ret v s) a → v = v1 ∧ s.nx ≤ N ∧ hasB s bl = true
  | .ret v0 s0, h, v, s, hl => by
    have hl : Ans.ret v s = Ans.ret v0 s0 := hl
    injection hl with e1 e2
    subst e1 e2
    have h : cond (avEq v v1) (cond (Nat.ble s.nx N) (hasB s bl) false) false = true := h
    obtain ⟨h1, h⟩ := cond_true' h
    obtain ⟨h2, h⟩ := cond_true' h
    exact ⟨avEq_eq h1, Nat.le_of_ble_eq_true h2, h⟩
  | .ex _ _ _, h, v, s, hl => by cases h
  | .two a b, h, v, s, hl => by
    have h : cond (chkA v1 bl N a) (chkA v1 bl N b) false = true := h
    obtain ⟨h1, h2⟩ := cond_true' h
    rcases hl with hl | hl
    · exact chkA_some h1 v s hl
    · exact chkA_some h2 v s hl
noncomputable def memoF (args0 : List AV) (bl0 : List (Nat × Blk)) (nx0 : Nat) (v1 : AV) (s1 : ES) : Fun := fun _ args s =>
  cond (avEq (.agg args) (.agg args0)) (cond (Nat.beq s.nx nx0) (cond (hasB s bl0) (some (.ret v1 s1)) none) none) none
noncomputable def orF (a b : Fun) : Fun := fun R args s =>
  match a R args s with
  | some x => some x
  | none => b R args s
theorem orF_ok {P : Prg} {g : FuncId} {a b : Fun} (ha : SOk P g a) (hb : SOk P g b) : SOk P g (orF a b) := by
  intro R hR args s x h
  unfold orF at h
  split at h
  · rename_i y hy
    cases h
    exact ha R hR args s _ hy
  · exact hb R hR args s x h
theorem memoF_ok {P : Prg} {g : FuncId} {args0 : List AV} {bl0 bl1 : List (Nat × Blk)} {n0 nx0 n1 nx1 : Nat} {v1 : AV} {R : Rec} (hR : RecOk P R) (h : chk v1 bl1 nx1 (R.h g args0 ⟨litT bl0, n0, nx0⟩) = true) :
    SOk P g (memoF args0 bl0 nx0 v1 ⟨litT bl1, n1, nx1⟩) := by
  intro R' _ args s a hh
  unfold memoF at hh
  obtain ⟨h1, hh⟩ := cond_some hh
  obtain ⟨h2, hh⟩ := cond_some hh
  obtain ⟨h3, hh⟩ := cond_some hh
  cases hh
  have e1 : args = args0 := by
    have := avEq_eq h1
    cases this
    rfl
  subst e1
  have e2 := Nat.eq_of_beq_eq_true h2
  unfold chk at h
  split at h
  · rename_i a0 ha0
    have hc := hR.h _ _ _ _ ha0
    have hk : ACall P g args (⟨litT bl0, n0, nx0⟩ : ES).st fun v' σ' => v' = v1 ∧ Less (⟨litT bl1, n1, nx1⟩ : ES).st.1 σ'.1 ∧ σ'.2 ≤ nx1 := hc.mono fun v' σ' ⟨s', hl, hs'⟩ => by
      subst hs'
      obtain ⟨q1, q2, q3⟩ := chkA_some h v' s' hl
      exact ⟨q1, lit_less q3, q2⟩
    have hp : ACall P g args (s.st.1, nx0) _ := ACall.pre (σ0 := (⟨litT bl0, n0, nx0⟩ : ES).st.1) (lit_less h3) hk.cut
    have : s.st = (s.st.1, nx0) := by rw [← e2]; rfl
    rw [this]
    exact hp.mono fun v' σ' hk => ⟨⟨litT bl1, n1, nx1⟩, show Ans.ret v' _ = _ by rw [hk.1], hk.2.symm⟩
  · cases h
end Hb
end

section
set_option linter.unusedVariables false
set_option linter.unusedSimpArgs false
set_option linter.constructorNameAsVariable false
set_option autoImplicit false
set_option linter.unusedVariables false
namespace Hb
open Go
noncomputable def frcV1 (v : AV) (k : AV → Res) : Res :=
  match v with
  | .i kd z => frcI z fun z => k (.i kd z)
  | v => k v
theorem frcV1_eq (v : AV) (k : AV → Res) : frcV1 v k = k v := by
  unfold frcV1
  split
  · rw [frcI_eq]
  · rfl
noncomputable def frcLV (l : List AV) (k : List AV → Res) : Res :=
  List.rec (motive := fun _ => (List AV → Res) → Res) (fun k => k []) (fun a _ ih k => frcV1 a fun a => ih fun t => k (a :: t)) l k
theorem frcLV_eq : ∀ (l : List AV) (k : List AV → Res), frcLV l k = k l
  | [], k => rfl
  | a :: l, k => by
    show (frcV1 a fun a => frcLV l fun t => k (a :: t)) = k (a :: l)
    rw [frcV1_eq, frcLV_eq l]
noncomputable def mkT (l : List (Nat × Blk)) (k : TR → Res) : Res :=
  List.rec (motive := fun _ => (TR → Res) → Res) (fun k => k .e) (fun p _ ih k => ih fun t => TR.setK t p.1 (some p.2) k) l k
theorem mkT_eq : ∀ (l : List (Nat × Blk)) (k : TR → Res), mkT l k = k (litT l)
  | [], k => rfl
  | p :: l, k => by
    show (mkT l fun t => TR.setK t p.1 (some p.2) k) = k (litT (p :: l))
    rw [mkT_eq l, TR.setK_eq]
    rfl
noncomputable def memoT (args0 : List AV) (bl0 : List (Nat × Blk)) (nx0 : Nat) (v1 : AV) (row : List AV) (bl : List AV → List (Nat × Blk)) (n1 nx1 : Nat) : Fun := fun _ args s =>
  cond (avEq (.agg args) (.agg args0)) (cond (Nat.beq s.nx nx0) (cond (hasB s bl0) (frcLV row fun cs => mkT (bl cs) fun t => some (.ret v1 ⟨t, n1, nx1⟩)) none) none) none
theorem memoT_eq (args0 : List AV) (bl0 : List (Nat × Blk)) (nx0 : Nat) (v1 : AV) (row : List AV) (bl : List AV → List (Nat × Blk)) (n1 nx1 : Nat) :
    memoT args0 bl0 nx0 v1 row bl n1 nx1 = memoF args0 bl0 nx0 v1 ⟨litT (bl row), n1, nx1⟩ := by
  funext R args s
  unfold memoT memoF
  rw [frcLV_eq, mkT_eq]
theorem memoF_okR {P : Prg} {g : FuncId} {args0 : List AV} {bl0 bl1 : List (Nat × Blk)} {n0 nx0 n1 nx1 : Nat} {v1 : AV} {r : Res} (hr : ∀ a, r = some a → ACall P g args0 (⟨litT bl0, n0, nx0⟩ : ES).st (RetIn a)) (h : chk v1 bl1 nx1 r = true) :
    SOk P g (memoF args0 bl0 nx0 v1 ⟨litT bl1, n1, nx1⟩) := by
  intro R' _ args s a hh
  unfold memoF at hh
  obtain ⟨h1, hh⟩ := cond_some hh
  obtain ⟨h2, hh⟩ := cond_some hh
  obtain ⟨h3, hh⟩ := cond_some hh
  cases hh
  have e1 : args = args0 := by
    have := avEq_eq h1
    cases this
    rfl
  subst e1
  have e2 := Nat.eq_of_beq_eq_true h2
  unfold chk at h
  split at h
  · rename_i a0
    have hc := hr _ rfl
    have hk : ACall P g args (⟨litT bl0, n0, nx0⟩ : ES).st fun v' σ' => v' = v1 ∧ Less (⟨litT bl1, n1, nx1⟩ : ES).st.1 σ'.1 ∧ σ'.2 ≤ nx1 := hc.mono fun v' σ' ⟨s', hl, hs'⟩ => by
      subst hs'
      obtain ⟨q1, q2, q3⟩ := chkA_some h v' s' hl
      exact ⟨q1, lit_less q3, q2⟩
    have hp : ACall P g args (s.st.1, nx0) _ := ACall.pre (σ0 := (⟨litT bl0, n0, nx0⟩ : ES).st.1) (lit_less h3) hk.cut
    have : s.st = (s.st.1, nx0) := by rw [← e2]; rfl
    rw [this]
    exact hp.mono fun v' σ' hk => ⟨⟨litT bl1, n1, nx1⟩, show Ans.ret v' _ = _ by rw [hk.1], hk.2.symm⟩
  · cases h
noncomputable def runS (b : Fun) (R : Rec) (str : List Nat) (bl0 : List (Nat × Blk)) (n0 nx0 : Nat) : Res := frcLN str fun l => mkT bl0 fun t => b R [.s l] ⟨t, n0, nx0⟩
theorem runS_ok {P : Prg} {g : FuncId} {b : Fun} {R : Rec} {str : List Nat} {bl0 : List (Nat × Blk)} {n0 nx0 : Nat} (hb : SOk P g b) (hR : RecOk P R) (a : Ans) (h : runS b R str bl0 n0 nx0 = some a) :
    ACall P g [.s str] (⟨litT bl0, n0, nx0⟩ : ES).st (RetIn a) := by
  unfold runS at h
  rw [frcLN_eq, mkT_eq] at h
  exact hb R hR _ _ _ h
end Hb
end
