/- A layer for programs of small data: values, stores, code, and an evaluator of code that the kernel runs; part 3. -/
import Derived.Test.YtkmpehlhplhnhaaGreatDoorH2

section
set_option linter.unusedVariables false
set_option linter.unusedSimpArgs false
set_option linter.constructorNameAsVariable false
set_option autoImplicit false
set_option linter.unusedSimpArgs false
set_option linter.unusedVariables false
namespace Hb
open Go
abbrev St := Store × Nat
def Cx.st (c : Cx) : St := (c.σ, c.nx)
def Fw : Option Nat → Fence
  | none => Fence.wide
  | some l => Fence.wide.inRound l
theorem Fw_fn (l : Option Nat) (f : FuncId) : (Fw l).fn f := by cases l <;> trivial
theorem Fw_round (l : Option Nat) : (Fw l).round = l := by cases l <;> rfl
theorem Fw_depth (l : Option Nat) : (Fw l).depth = none := by cases l <;> rfl
theorem Fw_room (l : Option Nat) (n : Nat) : (Fw l).room n := by intro d h; rw [Fw_depth] at h; cases h
def Env.put (ρ : Env) (d : Option Nat) (v : AV) : Env :=
  match d with
  | some t => ⟨upd ρ.f t v, ρ.d⟩
  | none => ρ
def RepDf (c : Cx) (d : List (Nat × Nat)) (l : List Deferred) : Prop :=
  d.length = l.length ∧ ∀ (i : Nat) (p : Nat × Nat), d[i]? = some p → p.2 < c.nx ∧ ∃ b, l[i]? = some ({ target := .collected b, args := #[] } : Deferred) ∧ ∀ blk, c.σ.at p.1 p.2 = some blk → blk.virt = false → b = (c.loc p.1).1
structure RepA (c : Cx) (N : Nat) (ρ : Env) (a : Act) : Prop where
  t : RepT c N ρ.f a.tmps
  d : RepDf c ρ.d a.defers
def RdRep (c : Cx) : Option (Nat × Nat) → Option Nat → Prop
  | none, none => True
  | some p, some b => p.2 < c.nx ∧ ∀ blk, c.σ.at p.1 p.2 = some blk → blk.virt = false → b = (c.loc p.1).1
  | _, _ => False
def XExit.rep : XExit → Exit
  | .normal => .normal
  | .exit id => .exit id
  | .ret => .ret
theorem RepDf.mono0 {c c' : Cx} (h : Ext0 c c') {d : List (Nat × Nat)} {l : List Deferred} (hd : RepDf c d l) : RepDf c' d l :=
  ⟨hd.1, fun i p hi => by
    obtain ⟨h1, b, h2, h3⟩ := hd.2 i p hi
    refine ⟨Nat.lt_of_lt_of_le h1 h.nx, b, h2, fun blk hb hv => ?_⟩
    obtain ⟨blk0, g1, g2, g3⟩ := h.at h1 hb
    rw [g3 (g2.trans hv)]
    exact h3 blk0 g1 (g2.trans hv)⟩
theorem RepDf.mono {c c' : Cx} (h : Ext c c') {d : List (Nat × Nat)} {l : List Deferred} (hd : RepDf c d l) : RepDf c' d l := RepDf.mono0 h.to0 hd
theorem RepA.mono0 {c c' : Cx} (h : Ext0 c c') {N : Nat} {ρ : Env} {a : Act} (ha : RepA c N ρ a) : RepA c' N ρ a := ⟨ha.t.mono0 h, ha.d.mono0 h⟩
theorem RepA.mono {c c' : Cx} (h : Ext c c') {N : Nat} {ρ : Env} {a : Act} (ha : RepA c N ρ a) : RepA c' N ρ a := ⟨ha.t.mono h, ha.d.mono h⟩
theorem RdRep.mono {c c' : Cx} (h : Ext c c') {rd : Option (Nat × Nat)} {l : Option Nat} (hr : RdRep c rd l) : RdRep c' rd l := by
  cases rd <;> cases l <;> simp only [RdRep] at hr ⊢
  refine ⟨Nat.lt_of_lt_of_le hr.1 h.nx, fun blk hb hv => ?_⟩
  obtain ⟨blk0, g1, g2, g3⟩ := h.at hr.1 hb
  rw [g3 (g2.trans hv)]
  exact hr.2 blk0 g1 (g2.trans hv)
theorem RepA.put {c : Cx} {N : Nat} {ρ : Env} {a : Act} (ha : RepA c N ρ a) {d : Option Nat} {v : AV} {u : Value} (hv : RepV c v u) (hd : ∀ t, d = some t → t < N) : RepA c N (ρ.put d v) (a.put d u) := by
  cases d with
  | none => exact ha
  | some t =>
    refine ⟨⟨by simp [Act.put, ha.t.1], fun n => ?_⟩, ha.d⟩
    simp only [Env.put, Act.put]
    by_cases hn : n = t
    · subst hn
      rw [upd_same]
      have : n < a.tmps.size := by rw [ha.t.1]; exact hd n rfl
      simpa [Array.getD, this] using hv
    · rw [upd_ne _ _ hn]
      have h := ha.t.2 n
      have e : (a.tmps.setIfInBounds t u).getD n undef = a.tmps.getD n undef := by
        simp only [Array.getD_eq_getD_getElem?]
        rw [Array.getElem?_setIfInBounds_ne (by omega)]
      rw [e]; exact h
section
variable (P : Prg)
def APost (c : Cx) (N : Nat) (Q : XExit → Env → St → Prop) (e : Exit) (a' : Act) (w' : World) : Prop :=
  ∃ (c' : Cx) (ρ' : Env) (e' : XExit), c'.w = w' ∧ Sim P c' ∧ Ext c c' ∧ RepA c' N ρ' a' ∧ e = e'.rep ∧ Q e' ρ' c'.st
def AX (N : Nat) (rd : Option (Nat × Nat)) (x : XC) (ρ : Env) (σ : St) (Q : XExit → Env → St → Prop) : Prop :=
  XOk P N x → ∀ h code, comp P N h code = some x → ∀ (c : Cx) (a : Act) (l : Option Nat), c.st = σ → Sim P c → RepA c N ρ a → RdRep c rd l → code.wpIn (Fw l) 0 P (APost P c N Q) a c.w
def hasBody (f : FuncId) : Bool :=
  match P.funcs[f]? with
  | some fn => fn.name != "runtime.NumGoroutine" && fn.body.isSome
  | none => false
def ACall (f : FuncId) (args : List AV) (σ : St) (K : AV → St → Prop) : Prop :=
  hasBody P f = true ∧ ∀ (c : Cx) (vs : List Value), c.st = σ → Sim P c → RepL c args vs → CallsIn Fence.wide 0 P f vs.toArray c.w fun e w' =>
    ∃ (c' : Cx) (v : Value) (av : AV), e = .returned v ∧ c'.w = w' ∧ Sim P c' ∧ Ext c c' ∧ RepV c' av v ∧ K av c'.st
def AExt (f : FuncId) (args : List AV) (σ : St) (K : AV → St → Prop) : Prop :=
  ∀ (c : Cx) (vs : List Value), c.st = σ → Sim P c → RepL c args vs →
    ∃ (c' : Cx) (u : Value) (av : AV), (callFunc f vs.toArray).run P c.w = .ok (.value u) c'.w ∧ Sim P c' ∧ Ext c c' ∧ RepV c' av u ∧ K av c'.st
end
section
variable {P : Prg} {N : Nat} {rd : Option (Nat × Nat)} {ρ : Env} {σ : St} {Q : XExit → Env → St → Prop}
theorem AExt.mono {f : FuncId} {args : List AV} {K K' : AV → St → Prop} (h : AExt P f args σ K) (hk : ∀ v σ', K v σ' → K' v σ') : AExt P f args σ K' :=
  fun c vs h1 h2 h3 => let ⟨c', u, av, a1, a2, a3, a4, a5⟩ := h c vs h1 h2 h3; ⟨c', u, av, a1, a2, a3, a4, hk _ _ a5⟩
theorem APost.trans {c c0 : Cx} (h : Ext c0 c) {e : Exit} {a' : Act} {w' : World} (hp : APost P c N Q e a' w') : APost P c0 N Q e a' w' := by
  obtain ⟨c', ρ', e', h1, h2, h3, h4, h5, h6⟩ := hp
  exact ⟨c', ρ', e', h1, h2, h.trans h3, h4, h5, h6⟩
theorem AX.mono {x : XC} {Q' : XExit → Env → St → Prop} (h : AX P N rd x ρ σ Q) (hq : ∀ e ρ σ, Q e ρ σ → Q' e ρ σ) : AX P N rd x ρ σ Q' :=
  fun hk hh code hc c a l h1 h2 h3 h4 => wpIn_mono (h hk hh code hc c a l h1 h2 h3 h4) fun e a' w' ⟨c', ρ', e', k1, k2, k3, k4, k5, k6⟩ => ⟨c', ρ', e', k1, k2, k3, k4, k5, hq _ _ _ k6⟩
theorem ACall.mono {f : FuncId} {args : List AV} {K K' : AV → St → Prop} (h : ACall P f args σ K) (hk : ∀ v σ', K v σ' → K' v σ') : ACall P f args σ K' :=
  ⟨h.1, fun c vs h1 h2 h3 => let ⟨k1, k2⟩ := h.2 c vs h1 h2 h3
    ⟨k1, fun cs hr => let ⟨e, w', fr, ⟨c', v, av, a1, a2, a3, a4, a5, a6⟩, r2, r3⟩ := k2 cs hr; ⟨e, w', fr, ⟨c', v, av, a1, a2, a3, a4, a5, hk _ _ a6⟩, r2, r3⟩⟩⟩
theorem AX.weak {x : XC} {ρ' : Env} (h : AX P N rd x ρ' σ Q) (hd : ρ'.d = ρ.d) (hf : ∀ t, ρ'.f t = ρ.f t ∨ ρ'.f t = .u) : AX P N rd x ρ σ Q := by
  intro hk hh code hc c a l h1 h2 h3 h4
  refine h hk hh code hc c a l h1 h2 ⟨⟨h3.t.1, fun t => ?_⟩, by rw [hd]; exact h3.d⟩ h4
  rcases hf t with e | e
  · rw [e]; exact h3.t.2 t
  · rw [e]; simp only [RepV]
theorem comp_skip {hn : XC} {code : Code} (h : comp P N hn code = some .skip) : code = .skip := by
  cases code with
  | region id ops dr => cases dr <;> simp [comp, Option.bind_eq_some_iff, Option.map_eq_some_iff] at h
  | skip => rfl
  | _ => simp [comp, Option.bind_eq_some_iff, Option.map_eq_some_iff] at h
theorem AX.skip (h : Q .normal ρ σ) : AX P N rd .skip ρ σ Q := by
  intro hk hh code hc c a l h1 h2 h3 h4
  rw [comp_skip hc]
  subst h1
  exact wpIn_skip ⟨c, ρ, .normal, rfl, h2, Ext.refl c, h3, rfl, h⟩
theorem comp_ret {hn : XC} {code : Code} (h : comp P N hn code = some .ret) : code = .ret := by
  cases code with
  | region id ops dr => cases dr <;> simp [comp, Option.bind_eq_some_iff, Option.map_eq_some_iff] at h
  | ret => rfl
  | _ => simp [comp, Option.bind_eq_some_iff, Option.map_eq_some_iff] at h
theorem AX.ret (h : Q .ret ρ σ) : AX P N rd .ret ρ σ Q := by
  intro hk hh code hc c a l h1 h2 h3 h4
  rw [comp_ret hc]
  subst h1
  exact wpIn_ret ⟨c, ρ, .ret, rfl, h2, Ext.refl c, h3, rfl, h⟩
theorem comp_exit {hn : XC} {code : Code} {id : Nat} (h : comp P N hn code = some (.exit id)) : code = .exit id := by
  cases code with
  | region id ops dr => cases dr <;> simp [comp, Option.bind_eq_some_iff, Option.map_eq_some_iff] at h
  | exit i => simp [comp] at h; rw [h]
  | _ => simp [comp, Option.bind_eq_some_iff, Option.map_eq_some_iff] at h
theorem AX.exit {id : Nat} (h : Q (.exit id) ρ σ) : AX P N rd (.exit id) ρ σ Q := by
  intro hk hh code hc c a l h1 h2 h3 h4
  rw [comp_exit hc]
  subst h1
  exact wpIn_exit ⟨c, ρ, .exit id, rfl, h2, Ext.refl c, h3, rfl, h⟩
theorem comp_seq {hn : XC} {code : Code} {j : Option (List Nat)} {x y : XC} (h : comp P N hn code = some (.seq j x y)) : ∃ a b ha hb, code = .seq a b ∧ comp P N ha a = some x ∧ comp P N hb b = some y := by
  cases code with
  | region id ops dr => cases dr <;> simp [comp, Option.bind_eq_some_iff, Option.map_eq_some_iff] at h
  | seq a b =>
    simp only [comp, Option.bind_eq_some_iff, Option.map_eq_some_iff] at h
    obtain ⟨x', hx, y', hy, he⟩ := h
    cases he
    exact ⟨a, b, _, _, rfl, hx, hy⟩
  | _ => simp [comp, Option.bind_eq_some_iff, Option.map_eq_some_iff] at h
def Then (P : Prg) (N : Nat) (rd : Option (Nat × Nat)) (y : XC) (Q : XExit → Env → St → Prop) : XExit → Env → St → Prop
  | .normal, ρ, σ => AX P N rd y ρ σ Q
  | e, ρ, σ => Q e ρ σ
theorem AX.seq {j : Option (List Nat)} {x y : XC} (h : AX P N rd x ρ σ (Then P N rd y Q)) : AX P N rd (.seq j x y) ρ σ Q := by
  intro hk hh code hc c a l h1 h2 h3 h4
  obtain ⟨p, q, _, _, rfl, hp, hq⟩ := comp_seq hc
  refine wpIn_seq (wpIn_mono (h hk.1 _ p hp c a l h1 h2 h3 h4) ?_)
  rintro e a' w' ⟨c', ρ', e', rfl, k2, k3, k4, rfl, k6⟩
  cases e' with
  | normal => exact wpIn_mono (k6 hk.2 _ q hq c' a' l rfl k2 k4 (h4.mono k3)) fun _ _ _ hp => hp.trans k3
  | exit id => exact ⟨c', ρ', .exit id, rfl, k2, k3, k4, rfl, k6⟩
  | ret => exact ⟨c', ρ', .ret, rfl, k2, k3, k4, rfl, k6⟩
theorem comp_cond {hn : XC} {code : Code} {o : XO} {x y : XC} (h : comp P N hn code = some (.cond o x y)) : ∃ c a b ha hb, code = .cond c a b ∧ compO P c = some o ∧ comp P N ha a = some x ∧ comp P N hb b = some y := by
  cases code with
  | region id ops dr => cases dr <;> simp [comp, Option.bind_eq_some_iff, Option.map_eq_some_iff] at h
  | cond c a b =>
    simp only [comp, Option.bind_eq_some_iff, Option.map_eq_some_iff] at h
    obtain ⟨o', ho, x', hx, y', hy, he⟩ := h
    cases he
    exact ⟨c, a, b, _, _, rfl, ho, hx, hy⟩
  | _ => simp [comp, Option.bind_eq_some_iff, Option.map_eq_some_iff] at h
theorem AX.cond {o : XO} {x y : XC} {t : Bool} (ho : o.ev ρ.f = .b t) (ht : t = true → AX P N rd x ρ σ Q) (hf : t = false → AX P N rd y ρ σ Q) : AX P N rd (.cond o x y) ρ σ Q := by
  intro hk hh code hc c a l h1 h2 h3 h4
  obtain ⟨co, p, q, _, _, rfl, hco, hp, hq⟩ := comp_cond hc
  have hr := compO_rep h2 h3.t hco
  rw [ho] at hr
  simp only [RepV] at hr
  cases t with
  | true => exact wpIn_cond hr (ht rfl hk.1 _ p hp c a l h1 h2 h3 h4)
  | false => exact wpIn_cond hr (hf rfl hk.2 _ q hq c a l h1 h2 h3 h4)
theorem comp_block {hn : XC} {code : Code} {id : Nat} {x : XC} (h : comp P N hn code = some (.block id x)) : ∃ a ha, code = .block id a ∧ comp P N ha a = some x := by
  cases code with
  | region id ops dr => cases dr <;> simp [comp, Option.bind_eq_some_iff, Option.map_eq_some_iff] at h
  | block i a =>
    simp only [comp, Option.map_eq_some_iff] at h
    obtain ⟨x', hx, he⟩ := h
    cases he
    exact ⟨a, _, rfl, hx⟩
  | _ => simp [comp, Option.bind_eq_some_iff, Option.map_eq_some_iff] at h
def InBlk (id : Nat) (Q : XExit → Env → St → Prop) : XExit → Env → St → Prop
  | .exit i, ρ, σ => if i = id then Q .normal ρ σ else Q (.exit i) ρ σ
  | e, ρ, σ => Q e ρ σ
theorem AX.block {id : Nat} {x : XC} (h : AX P N rd x ρ σ (InBlk id Q)) : AX P N rd (.block id x) ρ σ Q := by
  intro hk hh code hc c a l h1 h2 h3 h4
  obtain ⟨p, _, rfl, hp⟩ := comp_block hc
  refine wpIn_block (wpIn_mono (h hk _ p hp c a l h1 h2 h3 h4) ?_)
  rintro e a' w' ⟨c', ρ', e', rfl, k2, k3, k4, rfl, k6⟩
  cases e' with
  | normal => exact ⟨c', ρ', .normal, rfl, k2, k3, k4, rfl, k6⟩
  | exit i =>
    simp only [XExit.rep, Exit.inBlock]
    simp only [InBlk] at k6
    split
    · rename_i hi; rw [if_pos hi] at k6; exact ⟨c', ρ', .normal, rfl, k2, k3, k4, rfl, k6⟩
    · rename_i hi; rw [if_neg hi] at k6; exact ⟨c', ρ', .exit i, rfl, k2, k3, k4, rfl, k6⟩
  | ret => exact ⟨c', ρ', .ret, rfl, k2, k3, k4, rfl, k6⟩
theorem comp_loop {hn : XC} {code : Code} {A : List Nat} {x : XC} (h : comp P N hn code = some (.loop A x)) : ∃ a ha, code = .loop a ∧ comp P N ha a = some x := by
  cases code with
  | region id ops dr => cases dr <;> simp [comp, Option.bind_eq_some_iff, Option.map_eq_some_iff] at h
  | loop a =>
    simp only [comp, Option.map_eq_some_iff] at h
    obtain ⟨x', hx, he⟩ := h
    cases he
    exact ⟨a, _, rfl, hx⟩
  | _ => simp [comp, Option.bind_eq_some_iff, Option.map_eq_some_iff] at h
def LoopW (F : Fence) (n : Nat) (P : Prg) (c : Code) (R : Exit → Act → World → Prop) (a : Act) (w : World) : Prop :=
  ∀ (b : Frame) (k : List Item) (cs : List Frame), b.roundOf = F.round → F.fn b.fn → F.room (cs.length + 1 + n) →
    ∃ e a' w', R e a' w' ∧ ArrivesIn (Machine.fenced P F) P (lone (b.atR a (.code c :: .inLoop c :: k)) cs w) b k cs e a' w'
theorem wpIn_of_LoopW {F : Fence} {n : Nat} {c : Code} {R : Exit → Act → World → Prop} {a : Act} {w : World} (h : LoopW F n P c R a w) : (Code.loop c).wpIn F n P R a w := by
  intro b k cs hro hb hr
  obtain ⟨e, a', w', hq, harr⟩ := h b k cs hro hb hr
  exact ⟨e, a', w', hq, .of_steps (.one (fenced_calm hb hr rfl) stepR_loop) harr⟩
theorem LoopW_of {F : Fence} {n : Nat} {c : Code} {R : Exit → Act → World → Prop} {a : Act} {w : World} (h : c.wpIn F n P (Exit.then (fun a' w' => LoopW F n P c R a' w') R) a w) : LoopW F n P c R a w := by
  intro b k cs hro hb hr
  obtain ⟨e, a₁, w₁, hq, harr⟩ := h b (.inLoop c :: k) cs hro hb hr
  cases e with
  | normal =>
    obtain ⟨e₂, a₂, w₂, hq₂, harr₂⟩ := hq b k cs hro hb hr
    exact ⟨e₂, a₂, w₂, hq₂, .of_steps (StepsIn.trans harr (.one (fenced_calm hb hr rfl) stepR_inLoop)) harr₂⟩
  | exit id => exact ⟨_, a₁, w₁, hq, .pass (x := .inLoop c) rfl (fun _ _ => .inl (by simp)) harr⟩
  | goto l => exact ⟨_, a₁, w₁, hq, .pass (x := .inLoop c) rfl (fun _ _ => .inl (by simp)) harr⟩
  | ret => exact ⟨_, a₁, w₁, hq, .pass (x := .inLoop c) rfl (fun _ _ => .inl (by simp)) harr⟩
  | panic ch => exact ⟨_, a₁, w₁, hq, .pass (x := .inLoop c) rfl (fun _ _ => .inl (by simp)) harr⟩
  | outgrown => exact ⟨_, a₁, w₁, hq, .pass (x := .inLoop c) rfl (fun _ _ => .inl (by simp)) harr⟩
def ALoop (P : Prg) (N : Nat) (rd : Option (Nat × Nat)) (x : XC) (ρ : Env) (σ : St) (Q : XExit → Env → St → Prop) : Prop :=
  XOk P N x → ∀ h code, comp P N h code = some x → ∀ (c : Cx) (a : Act) (l : Option Nat), c.st = σ → Sim P c → RepA c N ρ a → RdRep c rd l → LoopW (Fw l) 0 P code (APost P c N Q) a c.w
def LoopQ (P : Prg) (N : Nat) (rd : Option (Nat × Nat)) (x : XC) (Q : XExit → Env → St → Prop) : XExit → Env → St → Prop
  | .normal, ρ, σ => ALoop P N rd x ρ σ Q
  | e, ρ, σ => Q e ρ σ
theorem AX.loop {A : List Nat} {x : XC} (h : ALoop P N rd x ρ σ Q) : AX P N rd (.loop A x) ρ σ Q := by
  intro hk hh code hc c a l h1 h2 h3 h4
  obtain ⟨p, _, rfl, hp⟩ := comp_loop hc
  exact wpIn_of_LoopW (h hk _ p hp c a l h1 h2 h3 h4)
theorem ALoop.of {x : XC} (h : AX P N rd x ρ σ (LoopQ P N rd x Q)) : ALoop P N rd x ρ σ Q := by
  intro hk hh code hc c a l h1 h2 h3 h4
  refine LoopW_of (wpIn_mono (h hk _ code hc c a l h1 h2 h3 h4) ?_)
  rintro e a' w' ⟨c', ρ', e', rfl, k2, k3, k4, rfl, k6⟩
  cases e' with
  | normal =>
    intro b k cs hro hb hr
    obtain ⟨e2, a2, w2, q2, r2⟩ := k6 hk _ code hc c' a' l rfl k2 k4 (h4.mono k3) b k cs hro hb hr
    exact ⟨e2, a2, w2, q2.trans k3, r2⟩
  | exit id => exact ⟨c', ρ', .exit id, rfl, k2, k3, k4, rfl, k6⟩
  | ret => exact ⟨c', ρ', .ret, rfl, k2, k3, k4, rfl, k6⟩
end
end Hb
end

section
set_option linter.unusedVariables false
set_option linter.unusedSimpArgs false
set_option linter.constructorNameAsVariable false
set_option autoImplicit false
set_option linter.unusedSimpArgs false
set_option linter.unusedVariables false
namespace Hb
open Go
def XOp.isCall : XOp → Bool
  | .call _ _ => true
  | _ => false
def storeAt (σ : Store) (a : AV) (n : Nat) (cs : List AV) : Option Store :=
  match a with
  | .p r st k i o => match σ.at r st with
    | some (.cells st' false T fz old) =>
      if cs.length = n ∧ o + n ≤ k ∧ (i + 1) * k ≤ old.length ∧ fz ≤ i * k + o + 1 then some (σ.set r (some (.cells st' false T fz (replaceAt old (i * k + o) cs)))) else none
    | _ => none
  | _ => none
def cellsOfSlice (σ : Store) (k : Nat) : AV → Option (Nat × List AV)
  | .sl k' n cs => if k' = k then some (n, cs) else none
  | .ns => some (0, [])
  | .sz => some (0, [])
  | .gr r st i n k' => if k' = k then (match σ.at r st with
      | some (.cells _ true _ _ _) => some (0, [])
      | some (.cells _ false _ _ cs) => if i * k + n * k ≤ cs.length then some (n, (cs.drop (i * k)).take (n * k)) else none
      | _ => none) else none
  | .s l => if k = 1 then some (l.length, l.map fun b => .i .u8 (.ofNat b)) else none
  | _ => none
def xappend (σ : Store) (T k : Nat) (x : AV) (m : Nat) (new : List AV) (s : Nat) : Option (AV × St) :=
  if 1048576 < m then none else
  match x with
  | .ns => some (.gr σ.length s 0 m k, σ ++ [some (.cells s (decide (m = 0)) T 0 new)], s + 1)
  | .sz => some (.gr σ.length s 0 m k, σ ++ [some (.cells s (decide (m = 0)) T 0 new)], s + 1)
  | .sl k' n cs => if k' = k ∧ m = 0 then some (.sl k' n cs, σ, s) else none
  | .gr r st i n k' =>
    if k' = k ∧ n ≤ 1048576 then
      match σ.at r st with
      | some (.cells _ true _ _ _) => if m = 0 then some (.gr r st i n k', σ, s) else some (.gr r s 0 m k, σ.set r (some (.cells s false T 0 new)), s + 1)
      | some (.cells _ false T' fz old) => if m = 0 then some (.gr r st i n k', σ, s) else
          if T' = T ∧ i * k + n * k ≤ old.length ∧ fz ≤ i * k + n * k + 1 ∧ (i = 0 ∨ fz ≤ 1) then some (.gr r s 0 (n + m) k, σ.set r (some (.cells s false T (if i = 0 then fz else 1) ((old.drop (i * k)).take (n * k) ++ new))), s + 1) else none
      | _ => none
    else none
  | _ => none
def bytesS : List AV → Option (List Nat)
  | [] => some []
  | .i .u8 (.ofNat n) :: xs => if n < 256 then (bytesS xs).map fun l => n :: l else none
  | _ => none
def ustrAt (σ : Store) (e : Nat) (p : AV) (m : Nat) : Option (List Nat × Store) :=
  match p with
  | .np => if m = 0 then some ([], σ) else none
  | .p r st k i o => match σ.at r st with
    | some (.cells st' false T fz cs) => if T = e ∧ fz ≠ 1 ∧ k = 1 ∧ i = 0 ∧ o = 0 ∧ 0 < m ∧ m ≤ cs.length ∧ m ≤ 1048576 then
        (bytesS (cs.take m)).map fun l => (l, σ.set r (some (.cells st' false T (max fz (m + 1)) cs))) else none
    | _ => none
  | _ => none
def copyS (σ : Store) (k : Nat) (x y : AV) : Option (Nat × Store) :=
  match cellsOfSlice σ k y with
  | none => none
  | some (m, new) => match x with
    | .ns => if m = 0 then some (0, σ) else none
    | .gr r st i n k' => if m = 0 then some (0, σ) else if k' = k ∧ m ≤ n then (match σ.at r st with
      | some (.cells st' false T fz old) => if i * k + n * k ≤ old.length ∧ fz ≤ i * k + 1 then some (m, σ.set r (some (.cells st' false T fz (replaceAt old (i * k) new)))) else none
      | _ => none) else none
    | _ => none
def msetS (σ : Store) (str : Bool) (x i v : AV) : Option Store :=
  if keyIs str i then match x with
    | .m r st => match σ.at r st with
      | some (.map st' ck es) => (mputL i v ck es).map fun p => σ.set r (some (.map st' (cond p.2 (ck + 1) ck) p.1))
      | _ => none
    | _ => none
  else none
def mdelS (σ : Store) (str : Bool) (x i : AV) : Option Store :=
  if keyIs str i then match x with
    | .nm => some σ
    | .m r st => match σ.at r st with
      | some (.map st' ck es) => (mdelL i es).map fun l => σ.set r (some (.map st' ck l))
      | _ => none
    | _ => none
  else none
def mcands (seen : List Nat) (since last : Nat) (es : List (AV × AV × Nat)) : Option (List (Option (AV × AV × Nat))) :=
  if (!seen.isEmpty && !es.isEmpty && es.all fun e => decide (last ≤ e.2.2)) = true then none else
    let left := es.filter fun e => !seen.contains e.2.2
    let old := left.filter fun e => decide (e.2.2 < since)
    let new := left.filter fun e => decide (since ≤ e.2.2)
    some ((if old.isEmpty then [none] else []) ++ (old ++ new).map some)
def clrS (σ : Store) (k : Nat) (z : List AV) (x : AV) : Option Store :=
  match x with
  | .ns => some σ
  | .sz => some σ
  | .gr r st i n k' => if n = 0 then some σ else match σ.at r st with
    | some (.cells st' false T fz old) =>
      if k' = k ∧ i * k + n * k ≤ old.length ∧ fz ≤ i * k + 1 then some (σ.set r (some (.cells st' false T fz (replaceAt old (i * k) ((List.range (n * k)).map fun j => (z[j % z.length]?).getD .u))))) else none
    | _ => none
  | _ => none
def mksS (σ : Store) (x : AV) : Option Store :=
  match x with
  | .gr r st _ n k => match σ.at r st with
    | some (.cells st' false T fz cs) => if fz = 0 ∧ k = 1 ∧ n ≠ 0 then some (σ.set r (some (.cells st' false T 1 cs))) else none
    | _ => none
  | _ => none
def putAll (ρ : Nat → AV) : List Nat → List AV → Nat → AV
  | p :: ps, a :: as => putAll (upd ρ p a) ps as
  | _, _ => ρ
section
variable (P : Prg)
def RoundEnd (r st : Nat) (K : AV → St → Prop) (e : XExit) (ρ : Env) (σ : St) : Prop :=
  match σ.1.at r st with
  | some (.loop _ _ _ N ρl ps xa xb dr ds) => match e with
    | .normal => K (.b true) (σ.1.set r (some (.loop st .ready none N ρl ps xa xb dr ds)), σ.2)
    | e => K (.b false) (σ.1.set r (some (.loop st .done (some e) N ρl ps xa xb dr ds)), σ.2)
  | _ => False
def RoundMid (r st N0 : Nat) (xb0 : XC) (K : AV → St → Prop) (e : XExit) (ρ : Env) (σ : St) : Prop :=
  match e, σ.1.at r st with
  | .normal, some (.loop _ .ready pe N ρl ps xa xb dr ds) => AX P N0 (some (r, st)) xb0.un ρ (σ.1.set r (some (.loop st .busy pe N ρl ps xa xb dr ds)), σ.2) (RoundEnd r st K)
  | _, _ => False
def ARound (r st : Nat) (args : List AV) (σ : St) (K : AV → St → Prop) : Prop :=
  match σ.1.at r st with
  | some (.loop _ .ready _ N ρl ps xa xb _ _) => args.length = ps.length ∧ (XOk P N xa → XOk P N xb → AX P N (some (r, st)) xa.un ⟨putAll ρl ps args, []⟩ σ (RoundMid P r st N xb K))
  | _ => False
def XStep (x : XOp) (ρ : Nat → AV) (σ : St) (K : AV → St → Prop) : Prop :=
  match x with
  | .alloc T z => K (.p σ.1.length σ.2 z.length 0 0) (σ.1 ++ [some (.cells σ.2 false T 0 z)], σ.2 + 1)
  | .box T _ x => match (x.ev ρ).cells with
    | some cs => K (.p σ.1.length σ.2 cs.length 0 0) (σ.1 ++ [some (.cells σ.2 false T 0 cs)], σ.2 + 1)
    | none => False
  | .lit T k n z ps => match fillA ρ z ps with
    | some cs => K (.gr σ.1.length σ.2 0 n k) (σ.1 ++ [some (.cells σ.2 false T 0 cs)], σ.2 + 1)
    | none => False
  | .store n a x => match (x.ev ρ).cells with
    | some cs => match storeAt σ.1 (a.ev ρ) n cs with
      | some σ' => K (.tup []) (σ', σ.2)
      | none => False
    | none => False
  | .mksl T k z len cap => match len.ev ρ, cap.ev ρ with
    | .i .i64 l, .i .i64 c => 0 ≤ l ∧ l ≤ c ∧ c ≤ 1048576 ∧ K (.gr σ.1.length σ.2 0 l.toNat k) (σ.1 ++ [some (.cells σ.2 false T 0 ((List.range (c.toNat * k)).map fun j => (z[j % z.length]?).getD .u))], σ.2 + 1)
    | _, _ => False
  | .conv (.s2b T) x => match x.ev ρ with
    | .s l => K (.gr σ.1.length σ.2 0 l.length 1) (σ.1 ++ [some (.cells σ.2 false T 1 (l.map fun (b : Nat) => .i .u8 b))], σ.2 + 1)
    | _ => False
  | .bi (.append T k z) [x, y] => match cellsOfSlice σ.1 k (y.ev ρ) with
    | some (m, new) => match xappend σ.1 T k (x.ev ρ) m new σ.2 with
      | some (v, σ') => K v σ'
      | none => False
    | none => False
  | .bi (.appz T k z) [x, y] => match y.ev ρ with
    | .i .i64 (.ofNat m) => match xappend σ.1 T k (x.ev ρ) m ((List.range (m * k)).map fun j => (z[j % z.length]?).getD .u) σ.2 with
      | some (v, σ') => K v σ'
      | none => False
    | _ => False
  | .bi (.ustr e) [x, y] => match y.ev ρ with
    | .i .i64 (.ofNat m) => match ustrAt σ.1 e (x.ev ρ) m with
      | some (l, σ') => K (.s l) (σ', σ.2)
      | none => False
    | _ => False
  | .call f args => match f.ev ρ with
    | .fn (.func g) first cap => ACall P g (first ++ (args.map (XO.ev ρ)) ++ cap) σ K ∨ AExt P g (first ++ (args.map (XO.ev ρ)) ++ cap) σ K
    | .fy r st => ARound P r st (args.map (XO.ev ρ)) σ K
    | _ => False
  | .rng x => match x.ev ρ with
    | .s l => K (.it σ.1.length σ.2) (σ.1 ++ [some (.iter σ.2 l 0)], σ.2 + 1)
    | _ => False
  | .next x => match x.ev ρ with
    | .it r st => match σ.1.at r st with
      | some (.iter st' l pos) => if pos < l.length then
          K (.tup [.b true, .i .i64 pos, .i .i32 (Utf8.decode (bs l) pos).1]) (σ.1.set r (some (.iter st' l (pos + (Utf8.decode (bs l) pos).2))), σ.2) else K (.tup [.b false]) σ
      | _ => False
    | _ => False
  | .mkm => K (.m σ.1.length σ.2) (σ.1 ++ [some (.map σ.2 0 [])], σ.2 + 1)
  | .mset str x i v => match msetS σ.1 str (x.ev ρ) (i.ev ρ) (v.ev ρ) with
    | some σ' => K (.tup []) (σ', σ.2)
    | none => False
  | .mdel str x i => match mdelS σ.1 str (x.ev ρ) (i.ev ρ) with
    | some σ' => K (.tup []) (σ', σ.2)
    | none => False
  | .mks x => match mksS σ.1 (x.ev ρ) with
    | some σ' => K (x.ev ρ) (σ', σ.2)
    | none => False
  | .cpy k x y => match copyS σ.1 k (x.ev ρ) (y.ev ρ) with
    | some (n, σ') => K (.i .i64 n) (σ', σ.2)
    | none => False
  | .clr k z x => match clrS σ.1 k z (x.ev ρ) with
    | some σ' => K (.tup []) (σ', σ.2)
    | none => False
  | .rngm x => match x.ev ρ with
    | .m r st => match σ.1.at r st with
      | some (.map _ ck _) => K (.it σ.1.length σ.2) (σ.1 ++ [some (.miter σ.2 r st ck ck [])], σ.2 + 1)
      | _ => False
    | .mi ck bs ks => K (.it σ.1.length σ.2) (σ.1 ++ [some (.miti σ.2 ck bs ks [])], σ.2 + 1)
    | _ => False
  | .nextm x => match x.ev ρ with
    | .it r st => match σ.1.at r st with
      | some (.miter st' rm sm since last seen) => match σ.1.at rm sm with
        | some (.map _ ck es) => match mcands seen since last es with
          | some l => ∀ o ∈ l, match o with
            | none => K (.tup [.b false]) σ
            | some e => K (.tup [.b true, e.1, e.2.1]) (σ.1.set r (some (.miter st' rm sm since ck (seen ++ [e.2.2]))), σ.2)
          | none => False
        | _ => False
      | some (.miti st' ck bs ks seen) => match mcands seen ck ck (mkEs bs ks) with
        | some l => ∀ o ∈ l, match o with
          | none => K (.tup [.b false]) σ
          | some e => K (.tup [.b true, e.1, .u]) (σ.1.set r (some (.miti st' ck bs ks (seen ++ [e.2.2]))), σ.2)
        | none => False
      | _ => False
    | _ => False
  | x => match xpure σ.1 ρ x with
    | some v => K v σ
    | none => False
end
section
variable {P : Prg} {c : Cx} {N : Nat} {ρ : Nat → AV} {a : Act} {K : AV → St → Prop}
def Stepped1 (P : Prg) (c : Cx) (s : Sem Next) (K : AV → St → Prop) : Prop :=
  ∃ (c' : Cx) (nx : Next) (v : AV), s.run P c.w = .ok nx c'.w ∧ ((∃ u, nx = .value u ∧ RepV c' v u) ∨ (nx = .skip ∧ v = .tup [])) ∧ Sim P c' ∧ Ext c c' ∧ K v c'.st
theorem repAt_heap {c : Cx} {b : Nat} {arr : Array Value} {T : TypeId} {fz : Nat × Nat} {cs : List AV} {off : Nat} (h : c.w.heap[b]? = some (.cells arr T fz))
    (hr : RepL c cs ((arr.toList.drop off).take cs.length)) (h1 : ∀ y ∈ (arr.toList.drop off).take cs.length, y.oneCell' = true) : RepAt c b off cs := by
  refine RepAt.of_vals hr (fun j y hj => ?_) h1
  rw [List.getElem?_take] at hj
  split at hj
  · rw [List.getElem?_drop] at hj
    simp [World.cell?, h]
    simpa using hj
  · cases hj
theorem repAt_heap0 {c : Cx} {b : Nat} {arr : Array Value} {T : TypeId} {fz : Nat × Nat} {cs : List AV} (h : c.w.heap[b]? = some (.cells arr T fz))
    (hr : RepL c cs arr.toList) (h1 : ∀ y ∈ arr.toList, y.oneCell' = true) : RepAt c b 0 cs := by
  have e : (arr.toList.drop 0).take cs.length = arr.toList := by rw [List.drop_zero, hr.length, List.take_length]
  exact repAt_heap h (by rw [e]; exact hr) (by rw [e]; exact h1)
theorem fzOk_zero (k n : Nat) : fzOk (0, 0) k 0 n := ⟨by intro j _ _ _; omega, fun _ => ⟨.inl rfl, rfl⟩⟩
theorem new_var (hs : Sim P c) {T : TypeId} {arr : Array Value} {cs : List AV} {k : Nat} (hr : RepL c cs arr.toList) (h1 : ∀ y ∈ arr.toList, y.oneCell' = true) :
    ∃ c' : Cx, c'.w = c.w.alloc (.cells arr T) ∧ c'.st = (c.σ ++ [some (.cells c.nx false T 0 cs)], c.nx + 1) ∧ Sim P c' ∧ Ext c c' ∧
      RepV c' (.p c.σ.length c.nx k 0 0) (.pointer (some ⟨c.w.heap.size, 0, none⟩)) := by
  have hst : (Blk.cells c.nx false T 0 cs).st = c.nx := rfl
  refine ⟨c.push (.cells arr T) (.cells c.nx false T 0 cs), rfl, rfl, ?_, Ext.push hs _ _ hst, ?_⟩
  · refine Sim.push hs _ _ hst fun he => ?_
    simp only [BlkRep]
    have hloc : (c.push (.cells arr T) (.cells c.nx false T 0 cs)).loc c.σ.length = (c.w.heap.size, 0) := by simp [Cx.push]
    have hh : (c.push (.cells arr T) (.cells c.nx false T 0 cs)).w.heap[c.w.heap.size]? = some (.cells arr T (0, 0)) := heap_alloc_new c.w _
    rw [hloc]
    refine ⟨fun h => (by cases h), fun _ => ⟨arr, (0, 0), hh, fzOk_zero _ _, ?_, ?_⟩⟩
    · rw [hr.length, Array.length_toList]; exact Nat.le_of_eq (Nat.zero_add _)
    · exact repAt_heap0 hh (RepL.mono he _ _ hr) h1
  · simp only [RepV]
    refine ⟨⟨_, rfl⟩, by simp [Cx.push], fun blk hb hv => ?_⟩
    simp [Cx.push]
theorem step_alloc {T : TypeId} {z : List AV} (hs : Sim P c) (hz : tzero P T = some z) (h : K (.p c.σ.length c.nx z.length 0 0) (c.σ ++ [some (.cells c.nx false T 0 z)], c.nx + 1)) :
    Stepped1 P c (do pure (.value (← Instr.alloc T true (.tuple #[])))) K := by
  obtain ⟨zv, h1, h2⟩ := run_tzero hz c.w
  obtain ⟨r1, r2⟩ := litL_rep (c := c) h2
  obtain ⟨c', e1, e2, e3, e4, e5⟩ := new_var (P := P) (k := z.length) (T := T) hs r1 r2
  refine ⟨c', _, _, ?_, .inl ⟨_, rfl, e5⟩, e3, e4, by rw [e2]; exact h⟩
  simp [Instr.alloc, h1, newVar, newRow, e1]
theorem step_box {T : TypeId} {x : AV} {u : Value} {cs : List AV} (hs : Sim P c) (hx : RepV c x u) (hcs : x.cells = some cs) (h : K (.p c.σ.length c.nx cs.length 0 0) (c.σ ++ [some (.cells c.nx false T 0 cs)], c.nx + 1)) :
    Stepped1 P c (do pure (.value (← Instr.box T u))) K := by
  obtain ⟨r1, r2⟩ := RepV.cells hcs hx
  obtain ⟨c', e1, e2, e3, e4, e5⟩ := new_var (P := P) (k := cs.length) (T := T) hs r1 r2
  refine ⟨c', _, _, ?_, .inl ⟨_, rfl, e5⟩, e3, e4, by rw [e2]; exact h⟩
  simp [Instr.box, newVar, newRow, e1]
end
end Hb
end

section
set_option linter.unusedVariables false
set_option linter.unusedSimpArgs false
set_option linter.constructorNameAsVariable false
set_option autoImplicit false
set_option linter.unusedSimpArgs false
set_option linter.unusedVariables false
namespace Hb
open Go
section
variable {P : Prg} {c : Cx} {N : Nat} {ρ : Nat → AV} {a : Act} {K : AV → St → Prop}
theorem setCell_block (w : World) (b o : Nat) (v : Value) {arr : Array Value} {T : TypeId} {fz : Nat × Nat} (h : w.heap[b]? = some (.cells arr T fz)) :
    (w.setCell ⟨b, o, none⟩ v).heap[b]? = some (.cells (arr.setIfInBounds o v) T fz) := by
  have hlt := (Array.getElem?_eq_some_iff.1 h).1
  simp [World.setCell, Array.getElem?_modify, h]
theorem setCell_other (w : World) (b o : Nat) (v : Value) {x : Nat} (h : x ≠ b) : (w.setCell ⟨b, o, none⟩ v).heap[x]? = w.heap[x]? := by
  simp [World.setCell, Array.getElem?_modify, show ¬ b = x from fun e => h e.symm]
theorem take_set_drop (l vs : List Value) (k : Nat) (v : Value) (h : k + (vs.length + 1) ≤ l.length) :
    (l.set k v).take (k + 1) ++ (vs ++ (l.set k v).drop (k + 1 + vs.length)) = l.take k ++ (v :: vs ++ l.drop (k + (vs.length + 1))) := by
  apply List.ext_getElem?
  intro j
  simp only [List.getElem?_append, List.length_take, List.length_set, List.getElem?_take, List.getElem?_set, List.getElem?_drop, List.cons_append]
  by_cases h1 : j < k
  · simp [h1, show j < k + 1 from by omega, show j < l.length from by omega, show min (k+1) l.length = k + 1 from by omega, show min k l.length = k from by omega, show ¬ k = j from by omega]
  · by_cases h2 : j = k
    · subst h2
      simp [show j < l.length from by omega, show min (j+1) l.length = j + 1 from by omega, show min j l.length = j from by omega]
    · obtain ⟨m, rfl⟩ : ∃ m, j = k + 1 + m := ⟨j - (k + 1), by omega⟩
      simp only [show min (k+1) l.length = k + 1 from by omega, show min k l.length = k from by omega, show ¬ k + 1 + m < k + 1 from by omega, show ¬ k + 1 + m < k from by omega, if_false,
        show k + 1 + m - (k + 1) = m from by omega, show k + 1 + m - k = m + 1 from by omega, List.getElem?_cons_succ, List.getElem?_append]
      by_cases h3 : m < vs.length
      · simp [h3]
      · simp only [h3, if_false, List.getElem?_drop, List.getElem?_set]
        simp [show ¬ k = k + 1 + vs.length + (m - vs.length) from by omega]
        congr 1; omega
theorem repl_get {α : Type} {l z : List α} {d m L j : Nat} {y : α} (h : ((l.drop d).take m ++ (z ++ ((l.drop d).take L).drop (m + z.length)))[j]? = some y) (hm : d + m ≤ l.length) :
    (l.take (d + m) ++ (z ++ l.drop (d + m + z.length)))[d + j]? = some y := by
  have e1 : ((l.drop d).take m).length = m := by simp; omega
  have e2 : (l.take (d + m)).length = d + m := by simp; omega
  rw [List.getElem?_append, e1] at h
  rw [List.getElem?_append, e2]
  by_cases hj : j < m
  · rw [if_pos hj, List.getElem?_take, if_pos hj, List.getElem?_drop] at h
    rw [if_pos (by omega), List.getElem?_take, if_pos (by omega)]
    exact h
  · rw [if_neg hj, List.getElem?_append] at h
    rw [if_neg (by omega), List.getElem?_append, show d + j - (d + m) = j - m from by omega]
    by_cases hz : j - m < z.length
    · rw [if_pos hz] at h ⊢
      exact h
    · rw [if_neg hz, List.getElem?_drop, List.getElem?_take] at h
      rw [if_neg hz, List.getElem?_drop]
      split at h
      · rw [List.getElem?_drop] at h
        rw [show d + m + z.length + (j - m - z.length) = d + (m + z.length + (j - m - z.length)) from by omega]
        exact h
      · cases h
theorem run_stores (P : Prg) (b off : Nat) : ∀ (vs : List Value) (i : Nat) (w : World) (arr : Array Value) (T : TypeId) (fz : Nat × Nat), w.heap[b]? = some (.cells arr T fz) → (∀ j, off + i ≤ j → j < arr.size → ¬ (fz.1 ≤ j ∧ j < fz.2)) →
    off + i + vs.length ≤ arr.size → (∀ v ∈ vs, v.oneCell' = true) →
    ∃ (w' : World) (arr' : Array Value), (storeCells ⟨b, off, none⟩ vs i).run P w = .ok () w' ∧ w'.heap[b]? = some (.cells arr' T fz) ∧ arr'.size = arr.size ∧
      arr'.toList = arr.toList.take (off + i) ++ (vs ++ arr.toList.drop (off + i + vs.length)) ∧ (∀ x, x ≠ b → w'.heap[x]? = w.heap[x]?) ∧ w'.heap.size = w.heap.size ∧ w'.os = w.os ∧ w'.tape = w.tape ∧ w'.output = w.output
  | [], i, w, arr, T, fz, h, hf, hl, h1 => ⟨w, arr, by simp [storeCells], h, rfl, by simp, fun _ _ => rfl, rfl, rfl, rfl, rfl⟩
  | v :: vs, i, w, arr, T, fz, h, hf, hl, h1 => by
    simp only [List.length_cons] at hl
    have hlt : off + i < arr.size := by omega
    have hcell : w.cell? ⟨b, off + i, none⟩ = some arr[off + i] := by simp [World.cell?, h, hlt]
    have hfz : w.frozen? ⟨b, off + i, none⟩ = false := by
      have := hf (off + i) (Nat.le_refl _) hlt
      simp only [World.frozen?, h]
      simpa using this
    have h2 := setCell_block w b (off + i) v h
    obtain ⟨w', arr', k1, k2, k3, k4, k5, k6, k7, k8, k9⟩ := run_stores P b off vs (i + 1) (w.setCell ⟨b, off + i, none⟩ v) _ T fz h2 (fun j hj1 hj2 => hf j (by omega) (by simpa using hj2)) (by simp; omega) (fun v hv => h1 v (by simp [hv]))
    refine ⟨w', arr', ?_, k2, by simpa using k3, ?_, fun x hx => (k5 x hx).trans (setCell_other w b _ v hx), by simpa using k6, k7, k8, k9⟩
    · have hstore : (store ⟨b, off + i, none⟩ v).run P w = .ok () (w.setCell ⟨b, off + i, none⟩ v) := by
        rw [run_store P w _ v .plain (h1 v (by simp))]
        simp [hcell, hfz]
      simp only [storeCells, add_none, Sem.run_bind, hstore, Result.andThen_ok, k1]
    · rw [k4]
      simp only [Array.toList_setIfInBounds, List.length_cons]
      rw [show off + (i + 1) = off + i + 1 from by omega]
      exact take_set_drop _ _ _ _ (by simp; omega)
theorem own_size (hs : Sim P c) : ¬ c.own c.w.heap.size := by
  rintro ⟨r, blk, h1, h2, h3⟩
  have := hs.lt h1 h2
  omega
theorem zero_row {z : List AV} {zv : Value} {k n : Nat} (r1 : RepL c z zv.cells.toList) (r2 : ∀ v ∈ zv.cells.toList, v.oneCell' = true) (hzl : z.length = k) (hk0 : 0 < k) :
    RepL c ((List.range (n * k)).map fun j => (z[j % z.length]?).getD .u) ((Array.range (n * k)).map (zv.cells[· % zv.cells.size]!)).toList ∧ ∀ y ∈ ((Array.range (n * k)).map (zv.cells[· % zv.cells.size]!)).toList, y.oneCell' = true := by
  have hzs : zv.cells.size = k := by rw [← Array.length_toList, ← r1.length]; exact hzl
  constructor
  · refine RepL.of_get (by simp) fun j x hj => ?_
    simp only [List.getElem?_map, Option.map_eq_some_iff] at hj
    obtain ⟨j', hj', rfl⟩ := hj
    have hjlt : j < n * k := by
      rcases Nat.lt_or_ge j (n * k) with h | h
      · exact h
      · rw [List.getElem?_eq_none (by simpa using h)] at hj'; cases hj'
    have : j' = j := by simpa [List.getElem?_range hjlt] using hj'.symm
    subst this
    have hm : j' % z.length < z.length := Nat.mod_lt _ (by omega)
    obtain ⟨y, hy1, hy2⟩ := r1.get (List.getElem?_eq_getElem hm)
    refine ⟨y, ?_, by rw [List.getElem?_eq_getElem hm]; exact hy2⟩
    have hmod : j' % zv.cells.size = j' % z.length := by rw [hzs, hzl]
    have hy1' : zv.cells[j' % z.length]? = some y := by simpa using hy1
    simp [hjlt, hmod, getElem!_def, hy1']
  · intro y hy
    simp only [Array.toList_map, List.mem_map] at hy
    obtain ⟨j, hj, rfl⟩ := hy
    have hm : j % zv.cells.size < zv.cells.size := Nat.mod_lt _ (by omega)
    rw [getElem!_pos zv.cells _ hm]
    exact r2 _ (by simp)
theorem replaceAt_length {l cs : List AV} {o : Nat} (h : o + cs.length ≤ l.length) : (replaceAt l o cs).length = l.length := by
  simp [replaceAt]; omega
theorem step_store {t : TypeId} {n : Nat} {x y : AV} {u z : Value} {cs : List AV} {σ' : Store} (hs : Sim P c) (hn : tsz P t = some n) (hx : RepV c x u) (hy : RepV c y z) (hcs : y.cells = some cs)
    (hst : storeAt c.σ x n cs = some σ') (h : K (.tup []) (σ', c.nx)) : Stepped1 P c (do Instr.storeAt t u z; pure .skip) K := by
  unfold storeAt at hst
  split at hst
  · rename_i r st k i o
    split at hst
    · rename_i st' T fz old hat
      split at hst
      · rename_i hc
        obtain ⟨h1, h2, h3, h4⟩ := hc
        cases hst
        obtain ⟨g1, g2⟩ := Store.at_some hat
        have hv : (Blk.cells st' false T fz old).virt = false := rfl
        have hlive : c.σ.live r st = true := by unfold Store.live; rw [hat]; rfl
        have hu := hx.p_live hlive
        subst hu
        obtain ⟨r1, r2⟩ := RepV.cells hcs hy
        obtain ⟨b1, b2⟩ := hs.blk r _ g1
        simp only [BlkRep] at b1
        obtain ⟨arr, fzr, e1, e2, e3, e4⟩ := b1.2 trivial
        have hlen := r1.length
        have hk' : (i + 1) * k = i * k + k := by rw [Nat.add_mul]; simp
        obtain ⟨d, hd⟩ : ∃ d, d = (c.loc r).2 := ⟨_, rfl⟩
        rw [← hd] at e2 e3 e4
        have hbound : d + (i * k + o) + z.cells.toList.length ≤ arr.size := by omega
        obtain ⟨w', arr', k1, k2, k3, k4, k5, k6, k7, k8, k9⟩ := run_stores P (c.loc r).1 (d + (i * k + o)) z.cells.toList 0 c.w arr T fzr e1 (fun j hj1 hj2 => e2.1 j (by omega) (by omega) hj2) (by omega) r2
        have hw : Wrote c (c.loc r).1 w' := ⟨k5, k6, fun arr0 T0 fz0 h0 => by rw [e1] at h0; cases h0; exact ⟨arr', fzr, k2, k3⟩, k7, k8, k9⟩
        let b' : Blk := .cells st' false T fz (replaceAt old (i * k + o) cs)
        have hsim : Sim P (c.put w' r b') := Sim.put hs g1 hv rfl hw (fun _ => rfl) fun he => by
          simp only [BlkRep, b']
          have hloc : (c.put w' r (.cells st' false T fz (replaceAt old (i * k + o) cs))).loc r = ((c.loc r).1, d) := by rw [hd]; rfl
          rw [hloc]
          refine ⟨fun h => (by cases h), fun _ => ⟨arr', fzr, k2, by rw [k3]; exact e2, ?_, ?_⟩⟩
          · rw [replaceAt_length (by omega), k3]; exact e3
          · obtain ⟨ys, y1, y2, y3, y4⟩ := e4.vals
            have hys : ys = (arr.toList.drop d).take old.length := by
              apply List.ext_getElem?
              intro j
              rw [List.getElem?_take]
              split
              · rename_i hj
                rw [← y1] at hj
                have := y2 j ys[j] (List.getElem?_eq_getElem hj)
                rw [List.getElem?_eq_getElem hj]
                simp [World.cell?, e1] at this
                rw [List.getElem?_drop]
                simpa using this.symm
              · rename_i hj
                rw [List.getElem?_eq_none (by omega)]
            subst hys
            have t1 : ((arr.toList.drop d).take old.length).take (i * k + o) = (arr.toList.drop d).take (i * k + o) := by rw [List.take_take]; congr 1; omega
            refine RepAt.of_vals (ys := ((arr.toList.drop d).take (i * k + o)) ++ (z.cells.toList ++ ((arr.toList.drop d).take old.length).drop (i * k + o + cs.length))) ?_ (fun j y hj => ?_) (fun y hy => ?_)
            · unfold replaceAt
              have y3' := RepL.mono he _ _ y3
              rw [← t1]
              exact (y3'.take _).append ((RepL.mono he _ _ r1).append (y3'.drop _))
            · have hcell : (c.put w' r b').w.cell? ⟨(c.loc r).1, d + j, none⟩ = arr'.toList[d + j]? := by
                simp [Cx.put, World.cell?, k2]
              refine hcell.trans ?_
              rw [k4]
              simp only [Nat.add_zero]
              rw [hlen] at hj
              exact repl_get hj (by rw [Array.length_toList]; omega)
            · rcases List.mem_append.1 hy with hy | hy
              · exact y4 y (by rw [← t1] at hy; exact List.mem_of_mem_take hy)
              · rcases List.mem_append.1 hy with hy | hy
                · exact r2 y hy
                · exact y4 y (List.mem_of_mem_drop hy)
        refine ⟨c.put w' r b', .skip, _, ?_, .inr ⟨rfl, rfl⟩, hsim, Ext.put hs g1 hv rfl hw (fun _ => rfl), ?_⟩
        have hsize : z.cells.size = n := by rw [← Array.length_toList, ← hlen]; exact h1
        rw [hd] at k1
        simp [Instr.storeAt, Instr.sureAddr, storeVar, run_tsz hn, hsize, k1, Cx.put]
        have hnx : max c.nx (b'.st + 1) = c.nx := Nat.max_eq_left b2
        show K _ (c.σ.set r (some b'), max c.nx (b'.st + 1))
        rw [hnx]
        exact h
      · cases hst
    · cases hst
  · cases hst
end
end Hb
end

section
set_option linter.unusedVariables false
set_option linter.unusedSimpArgs false
set_option linter.constructorNameAsVariable false
set_option autoImplicit false
set_option linter.unusedSimpArgs false
set_option linter.unusedVariables false
namespace Hb
open Go
section
variable {P : Prg} {c : Cx} {N : Nat} {ρ : Nat → AV} {a : Act} {K : AV → Store → Prop}
def Src (m : Nat) (u : Value) : Prop := (∃ (ya : Option Addr) (c' : Nat), u = .slice ya m c') ∨ ∃ s : ByteArray, u = .string s ∧ s.size = m
def SrcT (P : Program) (u : TypeId) : Prop := (∃ e', P.underlying u = some (.slice e')) ∨ P.underlying u = some .string
theorem Src.len {m : Nat} {u : Value} (h : Src m u) {Q : Program} {w : World} : (Builtin.lenOf u).run Q w = .ok m w := by
  rcases h with ⟨ya, c', rfl⟩ | ⟨s, rfl, rfl⟩ <;> rfl
theorem slice_cells0 {k m : Nat} {y : AV} {new : List AV} {u : Value} (hs : Sim P c) (hne : ∀ l, y ≠ .s l) (h : cellsOfSlice c.σ k y = some (m, new)) (hy : RepV c y u) :
    ∃ (ya : Option Addr) (cap : Nat), u = .slice ya m cap ∧ new.length = m * k ∧
      ∃ vs : List Value, (Builtin.firstCells k m u).run P c.w = .ok vs.toArray c.w ∧ RepL c new vs ∧ ∀ v ∈ vs, v.oneCell' = true := by
  have zero : ∀ (ya : Option Addr), ∃ vs : List Value, (Builtin.firstCells k 0 (.slice ya 0 0)).run P c.w = .ok vs.toArray c.w ∧ RepL c [] vs ∧ ∀ v ∈ vs, v.oneCell' = true := by
    intro ya
    refine ⟨[], ?_, by simp [RepL], by simp⟩
    cases ya with
    | none => simp [Builtin.firstCells]
    | some a => simp [Builtin.firstCells, loadCells, loadCellsFrom]
  unfold cellsOfSlice at h
  split at h
  · rename_i k' n cs
    split at h
    · rename_i hk
      subst hk
      cases h
      simp only [RepV] at hy
      obtain ⟨h0, hy⟩ := hy
      rcases hy with ⟨rfl, rfl, rfl⟩ | ⟨b, off, cap, rfl, hcap, hown, hat⟩
      · exact ⟨none, 0, rfl, h0, zero none⟩
      · obtain ⟨ys, e1, e2, e3⟩ := run_loadRep (P := P) hat
        rw [h0] at e1
        exact ⟨_, cap, rfl, h0, ys, by simp only [Builtin.firstCells]; exact e1, e2, e3⟩
    · cases h
  · cases h
    simp only [RepV] at hy
    subst hy
    exact ⟨none, 0, rfl, by simp, zero none⟩
  · cases h
    simp only [RepV] at hy
    obtain ⟨ya, rfl, _⟩ := hy
    exact ⟨ya, 0, rfl, by simp, zero ya⟩
  · rename_i r st i n k'
    split at h
    · rename_i hk
      subst hk
      simp only [RepV] at hy
      obtain ⟨⟨ya, cap0, rfl⟩, _, hy⟩ := hy
      split at h
      · rename_i st' T fz cs hat
        cases h
        obtain ⟨hi0, ya', he, _⟩ := (hy _ hat).1 rfl
        subst hi0
        rw [he]
        exact ⟨ya', 0, rfl, by simp, zero ya'⟩
      · rename_i st' T fz cs hat
        split at h
        · rename_i hle
          cases h
          obtain ⟨off, cap, arr, T', fz', he, hcap, e3, e4⟩ := (hy _ hat).2 rfl
          rw [he]
          have hcells : c.σ.cells r st = some cs := by unfold Store.cells; rw [hat]
          obtain ⟨arr2, T2, fzr2, fz2, g1, g2, g3, g4, _⟩ := hs.cells hcells
          refine ⟨_, cap, rfl, by simp; omega, ?_⟩
          by_cases hcap0 : cap = 0
          · have : m = 0 := by omega
            subst this
            refine ⟨[], ?_, by simp [RepL], by simp⟩
            simp [Builtin.firstCells, loadCells, loadCellsFrom]
          · obtain ⟨w1, w2⟩ := e4 hcap0
            subst w1
            have hat' := (g4.drop (i * k')).take (m * k')
            obtain ⟨ys, f1, f2, f3⟩ := run_loadRep (P := P) hat'
            have hlen : ((cs.drop (i * k')).take (m * k')).length = m * k' := by simp; omega
            rw [hlen] at f1
            exact ⟨ys, by simp only [Builtin.firstCells]; exact f1, f2, f3⟩
        · cases h
      · cases h
    · cases h
  · exact absurd rfl (hne _)
  · cases h
theorem slice_cells {k m : Nat} {y : AV} {new : List AV} {u : Value} (hs : Sim P c) (h : cellsOfSlice c.σ k y = some (m, new)) (hy : RepV c y u) :
    Src m u ∧ new.length = m * k ∧
      ∃ vs : List Value, (Builtin.firstCells k m u).run P c.w = .ok vs.toArray c.w ∧ RepL c new vs ∧ ∀ v ∈ vs, v.oneCell' = true := by
  by_cases hl : ∃ l, y = .s l
  · obtain ⟨l, rfl⟩ := hl
    simp only [cellsOfSlice] at h
    split at h
    · rename_i hk
      subst hk
      cases h
      simp only [RepV] at hy
      obtain ⟨rfl, hlt⟩ := hy
      refine ⟨.inr ⟨_, rfl, bs_size l⟩, by simp, l.map fun (b : Nat) => .int .u8 (.ofNat b), ?_, ?_, ?_⟩
      · have e1 : (bs l).extract 0 l.length = bs l := by
          rw [← bs_size l]; exact ByteArray.extract_zero_size
        simp only [Builtin.firstCells, Sem.run_pure, e1]
        congr 1
        simp only [bs, List.map_toArray, List.map_map]
        congr 1
        apply List.map_congr_left
        intro b hb
        simp only [Function.comp_apply]
        have := hlt b hb
        congr 1
        simp only [UInt8.toNat_ofNat']
        congr 1
        omega
      · clear hs hlt
        induction l with
        | nil => simp [RepL]
        | cons b l ih => simp only [List.map_cons, RepL]; exact ⟨_, _, rfl, by simp only [RepV], ih⟩
      · intro v hv
        simp only [List.mem_map] at hv
        obtain ⟨b, _, rfl⟩ := hv
        rfl
    · cases h
  · obtain ⟨ya, cap, h1, h2⟩ := slice_cells0 (P := P) hs (fun l e => hl ⟨l, e⟩) h hy
    exact ⟨.inl ⟨ya, cap, h1⟩, h2⟩
theorem growBy_le (newLen : Nat) : ∀ (r c : Nat), Builtin.growBy newLen r c + 192 ≤ 2 ^ r * (c + 192)
  | 0, c => by simp [Builtin.growBy]
  | r + 1, c => by
    have h2 : 2 ^ (r + 1) * (c + 192) = 2 ^ r * (2 * (c + 192)) := by rw [Nat.pow_succ, Nat.mul_assoc]
    have h1 : 1 ≤ 2 ^ r := Nat.one_le_two_pow
    simp only [Builtin.growBy]
    split
    · rw [h2]
      have : 1 * (2 * (c + 192)) ≤ 2 ^ r * (2 * (c + 192)) := Nat.mul_le_mul_right _ h1
      omega
    · rw [h2]
      exact Nat.le_trans (growBy_le newLen r _) (Nat.mul_le_mul_left _ (by omega))
theorem nextcap_le {n c : Nat} (h : c < n) : Builtin.nextslicecap n c ≤ 32 * n + 4000 := by
  unfold Builtin.nextslicecap
  split
  · omega
  · split
    · omega
    · have := growBy_le n 4 c
      omega
theorem append_grows {t u e : TypeId} {i : TypeInfo} {z : List AV} {base : Option Addr} {n cap m : Nat} {y : Value} {old new : List AV} {ty : TypeId} (hs : Sim P c)
    (ht : P.underlying t = some (.slice e)) (hu : SrcT P u) (hi : P.info? e = some i) (hb : i.bytes ≤ 4096) (hz : tzero P e = some z) (hzl : z.length = i.size)
    (hlt : cap < n + m) (hle : n + m ≤ 4194304) (hylen : Src m y) (hol : old.length = n * i.size) (hnl : new.length = m * i.size)
    (hold : ∃ vs : List Value, (Builtin.firstCells i.size n (.slice base n cap)).run P c.w.drew = .ok vs.toArray c.w.drew ∧ RepL c.drew old vs ∧ ∀ v ∈ vs, v.oneCell' = true)
    (hnew : ∃ vs : List Value, (Builtin.firstCells i.size m y).run P c.w.drew = .ok vs.toArray c.w.drew ∧ RepL c.drew new vs ∧ ∀ v ∈ vs, v.oneCell' = true) :
    ∃ (newCap : Nat) (arr : Array Value), (Builtin.append_ #[t, u] ty #[.slice base n cap, y]).run P c.w = .ok (.slice (some ⟨c.w.heap.size, 0, none⟩) (n + m) newCap) (c.w.drew.alloc (.cells arr e)) ∧
      n + m ≤ newCap ∧ arr.size = newCap * i.size ∧ RepL c.drew (old ++ new) (arr.toList.take (old ++ new).length) ∧ ∀ v ∈ arr.toList.take (old ++ new).length, v.oneCell' = true := by
  obtain ⟨ovs, o1, o2, o3⟩ := hold
  obtain ⟨nvs, n1, n2, n3⟩ := hnew
  obtain ⟨zv, hz1, hz2⟩ := run_tzero hz c.w.drew
  obtain ⟨r1, r2⟩ := litL_rep (c := c) hz2
  have hzs : zv.cells.size = i.size := by rw [← Array.length_toList, ← r1.length]; exact hzl
  have hsz : tsz P e = some i.size := by simp [tsz, hi]
  let q := Question.appendCap (n + m) cap e
  let newCap := q.cut (c.w.tape c.w.drawn q)
  have hcap : n + m ≤ newCap := by simp only [newCap, q, Question.cut]; omega
  have hnc := nextcap_le hlt
  have hbytes : ¬ Builtin.nextslicecap (n + m) cap * i.bytes > 2 ^ 48 := by
    have : Builtin.nextslicecap (n + m) cap * i.bytes ≤ (32 * (n + m) + 4000) * 4096 := Nat.mul_le_mul hnc hb
    have h2 : (32 * (n + m) + 4000) * 4096 ≤ (32 * 4194304 + 4000) * 4096 := Nat.mul_le_mul_right _ (by omega)
    omega
  refine ⟨newCap, ovs.toArray ++ nvs.toArray ++ Builtin.zeroCells zv.cells (newCap - (n + m)), ?_, hcap, ?_, ?_, ?_⟩
  · have hmax : ¬ (((n + m : Nat) : Int) > IntKind.i64.max ∧ (False ∨ i.bytes = 0)) := by
      intro h
      have : (IntKind.i64.max : Int) = 9223372036854775807 := rfl
      rw [this] at h
      omega
    have hneed : ¬ n + m ≤ cap := by omega
    have hch : (choose q).run P c.w = .ok newCap c.w.drew := by rw [run_choose]; rfl
    rcases hu with ⟨e', hu⟩ | hu
    all_goals
      simp only [Builtin.append_, List.getElem?_toArray, List.getElem?_cons_zero, List.getElem?_cons_succ, Sem.run_bind, run_und ht, run_und hu, Result.andThen_ok, run_tsz hsz, Sem.run_pure,
        Bool.false_eq_true, if_false, hylen.len, hneed, run_tinfo hi, Sem.run_ite, hbytes]
      rw [if_neg (by simpa using hmax)]
      simp only [Sem.run_bind, q, hch, Result.andThen_ok, run_tinfo hi, run_askRoom, o1, Bool.not_false, if_true, n1, hz1, newRow, run_newObj, Sem.run_pure]
      rfl
  · simp only [Array.size_append, List.size_toArray, Builtin.zeroCells, Array.size_map, Array.size_range]
    rw [← o2.length, ← n2.length, hol, hnl, hzs, ← Nat.add_mul, ← Nat.add_mul]
    congr 1; omega
  · have hl : (old ++ new).length = (ovs ++ nvs).length := by simp [o2.length, n2.length]
    have : ((ovs.toArray ++ nvs.toArray ++ Builtin.zeroCells zv.cells (newCap - (n + m))).toList).take (old ++ new).length = ovs ++ nvs := by
      rw [hl]; simp only [Array.toList_append]
      rw [List.take_append_of_le_length (by simp)]; simp only [← List.length_append, List.take_length]
    rw [this]
    exact o2.append n2
  · have hl : (old ++ new).length = (ovs ++ nvs).length := by simp [o2.length, n2.length]
    have : ((ovs.toArray ++ nvs.toArray ++ Builtin.zeroCells zv.cells (newCap - (n + m))).toList).take (old ++ new).length = ovs ++ nvs := by
      rw [hl]; simp only [Array.toList_append]
      rw [List.take_append_of_le_length (by simp)]; simp only [← List.length_append, List.take_length]
    rw [this]
    intro v hv
    rcases List.mem_append.1 hv with hv | hv
    · exact o3 v hv
    · exact n3 v hv
theorem append_fits {t u e : TypeId} {k : Nat} {base : Option Addr} {n cap m : Nat} {y : Value} {ty : TypeId} {w : World}
    (ht : P.underlying t = some (.slice e)) (hu : SrcT P u) (hk : tsz P e = some k) (hlt : n + m ≤ cap) (hylen : Src m y) {vs : List Value}
    (hnew : (Builtin.firstCells k m y).run P w = .ok vs.toArray w) :
    (Builtin.append_ #[t, u] ty #[.slice base n cap, y]).run P w = (match base with
      | some a => ((storeCells (a.add (n * k)) vs).run P w).andThen fun _ w' => .ok (.slice base (n + m) cap) w'
      | none => .ok (.slice none (n + m) cap) w) := by
  rcases hu with ⟨e', hu⟩ | hu
  all_goals
    simp only [Builtin.append_, List.getElem?_toArray, List.getElem?_cons_zero, List.getElem?_cons_succ, Sem.run_bind, run_und ht, run_und hu, Result.andThen_ok, run_tsz hk, Sem.run_pure,
        Bool.false_eq_true, if_false, hylen.len, hlt, Bool.not_false, if_true, hnew]
    cases base with
    | none => simp
    | some a => simp
end
end Hb
end

section
set_option linter.unusedVariables false
set_option linter.unusedSimpArgs false
set_option linter.constructorNameAsVariable false
set_option autoImplicit false
set_option linter.unusedSimpArgs false
set_option linter.unusedVariables false
namespace Hb
open Go
section
variable {P : Prg} {c : Cx} {N : Nat} {ρ : Nat → AV} {a : Act} {K : AV → St → Prop}
def Cx.pushV (c : Cx) (b : Blk) : Cx := ⟨c.w, c.σ ++ [some b], c.loc, c.nx + 1, c.n0⟩
theorem Ext.pushV (hs : Sim P c) (b : Blk) (hst : b.st = c.nx) (hv : b.virt = true) : Ext c (c.pushV b) where
  keep x hx _ := rfl
  own x hx h := by
    obtain ⟨r, blk, h1, h2, h3⟩ := h
    rcases push_get h1 with ⟨hr, h1⟩ | ⟨rfl, rfl⟩
    · exact ⟨r, blk, h1, h2, h3⟩
    · rw [hv] at h2; cases h2
  size := Nat.le_refl _
  live r blk h hlt := by
    rcases push_get h with ⟨hr, h1⟩ | ⟨rfl, rfl⟩
    · exact ⟨blk, h1, rfl, rfl, fun _ => rfl⟩
    · omega
  nx := by simp [Cx.pushV]
  sz x arr T fz h := ⟨arr, fz, h, rfl⟩
  os := rfl
  tape := rfl
  output := rfl
  n0 _ h := h
  new0 _ h := .inl h
  keep0 x hx := rfl
theorem Sim.pushV (hs : Sim P c) {st T fz : Nat} (hst : st = c.nx) : Sim P (c.pushV (.cells st true T fz [])) := by
  have he := Ext.pushV hs (.cells st true T fz []) hst rfl
  refine hs.gen he fun r b' h => ?_
  rcases push_get h with ⟨hr, h1⟩ | ⟨rfl, rfl⟩
  · exact .inl ⟨h1, rfl, fun _ => rfl⟩
  · refine .inr ⟨by simp [BlkRep], by simp [Cx.pushV, Blk.st, hst], fun hv => by cases hv⟩
theorem step_app {e : TypeId} {i : TypeInfo} {m : Nat} {x : AV} {ux : Value} {new : List AV} {vs : List Value} {F : Value → Sem Value} (hs : Sim P c)
    (hx : RepV c x ux) (hnl : new.length = m * i.size) (hrv : RepL c new vs) (hv1 : ∀ v ∈ vs, v.oneCell' = true)
    (hfits : ∀ {base : Option Addr} {n cap : Nat}, n + m ≤ cap → (F (.slice base n cap)).run P c.w = (match base with
        | some a => ((storeCells (a.add (n * i.size)) vs).run P c.w).andThen fun _ w' => .ok (.slice base (n + m) cap) w'
        | none => .ok (.slice none (n + m) cap) c.w))
    (hgrows : ∀ {base : Option Addr} {n cap : Nat} {old : List AV}, m ≤ 1048576 → cap < n + m → n + m ≤ 4194304 → old.length = n * i.size →
        (∃ vs : List Value, (Builtin.firstCells i.size n (.slice base n cap)).run P c.w.drew = .ok vs.toArray c.w.drew ∧ RepL c.drew old vs ∧ ∀ v ∈ vs, v.oneCell' = true) →
        ∃ (newCap : Nat) (arr : Array Value), (F (.slice base n cap)).run P c.w = .ok (.slice (some ⟨c.w.heap.size, 0, none⟩) (n + m) newCap) (c.w.drew.alloc (.cells arr e)) ∧
          n + m ≤ newCap ∧ arr.size = newCap * i.size ∧ RepL c.drew (old ++ new) (arr.toList.take (old ++ new).length) ∧ ∀ v ∈ arr.toList.take (old ++ new).length, v.oneCell' = true)
    (h : match xappend c.σ e i.size x m new c.nx with | some (v, σ') => K v σ' | none => False) :
    Stepped1 P c (do pure (.value (← F ux))) K := by
  obtain ⟨rv, σ', h, hK⟩ : ∃ v σ', xappend c.σ e i.size x m new c.nx = some (v, σ') ∧ K v σ' := by
    cases hxa : xappend c.σ e i.size x m new c.nx with
    | none => rw [hxa] at h; exact h.elim
    | some p => rw [hxa] at h; exact ⟨p.1, p.2, rfl, h⟩
  unfold xappend at h
  split at h
  · cases h
  rename_i hm
  have fresh : ∀ {base : Option Addr}, (∀ x, base = some x → x.spot = none) → ux = .slice base 0 0 → K (.gr c.σ.length c.nx 0 m i.size) (c.σ ++ [some (.cells c.nx (decide (m = 0)) e 0 new)], c.nx + 1) →
      Stepped1 P c (do pure (.value (← F ux))) K := by
    intro base hbs hux hk
    subst hux
    by_cases hm0 : m = 0
    · subst hm0
      have hvs : vs = [] := by
        have := hrv.length
        rw [hnl] at this
        simp at this
        exact List.eq_nil_of_length_eq_zero this.symm
      subst hvs
      have hnew : new = [] := List.eq_nil_of_length_eq_zero (by rw [hnl]; simp)
      subst hnew
      have hrun := hfits (base := base) (n := 0) (cap := 0) (Nat.le_refl _)
      refine ⟨c.pushV (.cells c.nx true e 0 []), .value (.slice base 0 0), _, ?_, .inl ⟨_, rfl, ?_⟩, Sim.pushV hs rfl, Ext.pushV hs _ rfl rfl, by simpa [Cx.st, Cx.pushV] using hk⟩
      · simp only [Sem.run_bind, hrun]
        cases base with
        | none => simp [Cx.pushV]
        | some a => simp [Cx.pushV, storeCells]
      · simp only [RepV]
        refine ⟨⟨_, _, rfl⟩, by simp [Cx.pushV], fun blk hb => ⟨fun hv => ⟨trivial, _, rfl, hbs⟩, fun hv => ?_⟩⟩
        exfalso
        have : (c.pushV (.cells c.nx true e 0 [])).σ.at c.σ.length c.nx = some (.cells c.nx true e 0 []) := Store.at_of (by simp [Cx.pushV]) rfl
        rw [this] at hb
        cases hb
        cases hv
    · have hold : ∃ vs : List Value, (Builtin.firstCells i.size 0 (.slice base 0 0)).run P c.w.drew = .ok vs.toArray c.w.drew ∧ RepL c.drew [] vs ∧ ∀ v ∈ vs, v.oneCell' = true := by
        refine ⟨[], ?_, by simp [RepL], by simp⟩
        cases base <;> simp [Builtin.firstCells, loadCells, loadCellsFrom]
      obtain ⟨newCap, arr, hrun, hcap, hsize, hr, h1⟩ := hgrows (base := base) (n := 0) (cap := 0) (by omega) (by omega) (by omega) (by simp) hold
      simp only [List.nil_append, Nat.zero_add] at hr h1 hrun hcap
      have hsd := hs.drew
      have hst : (Blk.cells c.nx false e 0 new).st = c.drew.nx := rfl
      have he := Ext.push hsd (.cells arr e) (.cells c.nx false e 0 new) hst
      have hle : new.length ≤ arr.size := by rw [hnl, hsize]; exact Nat.mul_le_mul_right _ hcap
      have hh : (c.drew.push (.cells arr e) (.cells c.nx false e 0 new)).w.heap[c.w.heap.size]? = some (.cells arr e (0, 0)) := heap_alloc_new c.w.drew _
      have hsim : Sim P (c.drew.push (.cells arr e) (.cells c.nx false e 0 new)) := Sim.push hsd _ _ hst fun he => by
        simp only [BlkRep]
        have hι : (c.drew.push (.cells arr e) (.cells c.nx false e 0 new)).loc c.drew.σ.length = (c.w.heap.size, 0) := by simp [Cx.push, Cx.drew]
        rw [hι]
        refine ⟨fun h => (by cases h), fun _ => ⟨arr, (0, 0), hh, fzOk_zero _ _, by simpa using hle, ?_⟩⟩
        exact repAt_heap hh (by rw [List.drop_zero]; exact RepL.mono he _ _ hr) (by rw [List.drop_zero]; exact h1)
      refine ⟨c.drew.push (.cells arr e) (.cells c.nx false e 0 new), .value (.slice (some ⟨c.w.heap.size, 0, none⟩) m newCap), _, ?_, .inl ⟨_, rfl, ?_⟩, hsim, (Ext.drew c).trans he, by simpa [hm0, Cx.st, Cx.push, Cx.drew] using hk⟩
      · simp only [Sem.run_bind, hrun]; rfl
      · simp only [RepV]
        refine ⟨⟨_, _, rfl⟩, by simp [Cx.push, Cx.drew], fun blk hb => ⟨fun hv => ?_, fun hv => ?_⟩⟩
        · exfalso
          have : (c.drew.push (.cells arr e) (.cells c.nx false e 0 new)).σ.at c.σ.length c.nx = some (.cells c.nx false e 0 new) := Store.at_of (by simp [Cx.push, Cx.drew]) rfl
          rw [this] at hb
          cases hb
          cases hv
        · refine ⟨0, newCap, arr, e, (0, 0), ?_, hcap, ?_, fun _ => ⟨by simp [Cx.push, Cx.drew], by rw [hsize]; simp [Cx.push, Cx.drew]⟩⟩
          · simp [Cx.push, Cx.drew]
          · have hι : (c.drew.push (.cells arr e) (.cells c.nx false e 0 new)).loc c.σ.length = (c.w.heap.size, 0) := by simp [Cx.push, Cx.drew]
            rw [hι]; exact hh
  have grown : ∀ {n cap : Nat} {base : Option Addr} {old : List AV}, ux = .slice base n cap → m ≠ 0 → cap < n + m → n ≤ 1048576 → old.length = n * i.size →
      (∃ vs : List Value, (Builtin.firstCells i.size n (.slice base n cap)).run P c.w.drew = .ok vs.toArray c.w.drew ∧ RepL c.drew old vs ∧ ∀ v ∈ vs, v.oneCell' = true) →
      K (.gr c.σ.length c.nx 0 (n + m) i.size) (c.σ ++ [some (.cells c.nx false e 0 (old ++ new))], c.nx + 1) →
      Stepped1 P c (do pure (.value (← F ux))) K := by
    intro n cap base old hux hm0 hlt hn hol hold hk
    subst hux
    obtain ⟨newCap, arr, hrun, hcap, hsize, hr, h1⟩ := hgrows (base := base) (n := n) (cap := cap) (by omega) hlt (by omega) hol hold
    have hsd := hs.drew
    have hst : (Blk.cells c.nx false e 0 (old ++ new)).st = c.drew.nx := rfl
    have he := Ext.push hsd (.cells arr e) (.cells c.nx false e 0 (old ++ new)) hst
    have hle : (old ++ new).length ≤ arr.size := by
      rw [List.length_append, hol, hnl, hsize, ← Nat.add_mul]; exact Nat.mul_le_mul_right _ hcap
    have hh : (c.drew.push (.cells arr e) (.cells c.nx false e 0 (old ++ new))).w.heap[c.w.heap.size]? = some (.cells arr e (0, 0)) := heap_alloc_new c.w.drew _
    have hsim : Sim P (c.drew.push (.cells arr e) (.cells c.nx false e 0 (old ++ new))) := Sim.push hsd _ _ hst fun he => by
      simp only [BlkRep]
      have hι : (c.drew.push (.cells arr e) (.cells c.nx false e 0 (old ++ new))).loc c.drew.σ.length = (c.w.heap.size, 0) := by simp [Cx.push, Cx.drew]
      rw [hι]
      refine ⟨fun h => (by cases h), fun _ => ⟨arr, (0, 0), hh, fzOk_zero _ _, by simpa using hle, ?_⟩⟩
      exact repAt_heap hh (by rw [List.drop_zero]; exact RepL.mono he _ _ hr) (by rw [List.drop_zero]; exact h1)
    refine ⟨c.drew.push (.cells arr e) (.cells c.nx false e 0 (old ++ new)), .value (.slice (some ⟨c.w.heap.size, 0, none⟩) (n + m) newCap), _, ?_, .inl ⟨_, rfl, ?_⟩, hsim, (Ext.drew c).trans he, by simpa [Cx.st, Cx.push, Cx.drew] using hk⟩
    · simp only [Sem.run_bind, hrun]; rfl
    · simp only [RepV]
      refine ⟨⟨_, _, rfl⟩, by simp [Cx.push, Cx.drew], fun blk hb => ⟨fun hv => ?_, fun hv => ?_⟩⟩
      · exfalso
        have : (c.drew.push (.cells arr e) (.cells c.nx false e 0 (old ++ new))).σ.at c.σ.length c.nx = some (.cells c.nx false e 0 (old ++ new)) := Store.at_of (by simp [Cx.push, Cx.drew]) rfl
        rw [this] at hb
        cases hb
        cases hv
      · refine ⟨0, newCap, arr, e, (0, 0), ?_, hcap, ?_, fun _ => ⟨by simp [Cx.push, Cx.drew], by rw [hsize]; simp [Cx.push, Cx.drew]⟩⟩
        · simp [Cx.push, Cx.drew]
        · have hι : (c.drew.push (.cells arr e) (.cells c.nx false e 0 (old ++ new))).loc c.σ.length = (c.w.heap.size, 0) := by simp [Cx.push, Cx.drew]
          rw [hι]; exact hh
  -- a block that is known gets another block of the machine's
  have moved : ∀ {r n cap fz : Nat} {base : Option Addr} {old : List AV}, ux = .slice base n cap → m ≠ 0 → cap < n + m → n ≤ 1048576 → old.length = n * i.size → fz ≤ n * i.size + 1 → r < c.σ.length →
      (∃ vs : List Value, (Builtin.firstCells i.size n (.slice base n cap)).run P c.w.drew = .ok vs.toArray c.w.drew ∧ RepL c.drew old vs ∧ ∀ v ∈ vs, v.oneCell' = true) →
      K (.gr r c.nx 0 (n + m) i.size) (c.σ.set r (some (.cells c.nx false e fz (old ++ new))), c.nx + 1) →
      Stepped1 P c (do pure (.value (← F ux))) K := by
    intro r n cap fz base old hux hm0 hlt hn hol hfz hr hold hk
    subst hux
    obtain ⟨newCap, arr, hrun, hcap, hsize, hr', h1⟩ := hgrows (base := base) (n := n) (cap := cap) (by omega) hlt (by omega) hol hold
    have hsd := hs.drew
    have hst : c.drew.nx ≤ (Blk.cells c.nx false e fz (old ++ new)).st := Nat.le_refl _
    have he := Ext.move hsd (o := .cells arr e) (r := r) hst
    have hle : (old ++ new).length ≤ arr.size := by
      rw [List.length_append, hol, hnl, hsize, ← Nat.add_mul]; exact Nat.mul_le_mul_right _ hcap
    have hh : (c.drew.move (.cells arr e) r (.cells c.nx false e fz (old ++ new))).w.heap[c.w.heap.size]? = some (.cells arr e (0, 0)) := heap_alloc_new c.w.drew _
    have hι : (c.drew.move (.cells arr e) r (.cells c.nx false e fz (old ++ new))).loc r = (c.w.heap.size, 0) := by simp [Cx.move, Cx.drew]
    have hsim : Sim P (c.drew.move (.cells arr e) r (.cells c.nx false e fz (old ++ new))) := Sim.move hsd hst fun he => by
      simp only [BlkRep]
      rw [hι]
      refine ⟨fun h => (by cases h), fun _ => ⟨arr, (0, 0), hh, fzOk_zero _ _, by simpa using hle, ?_⟩⟩
      exact repAt_heap hh (by rw [List.drop_zero]; exact RepL.mono he _ _ hr') (by rw [List.drop_zero]; exact h1)
    have hat : (c.drew.move (.cells arr e) r (.cells c.nx false e fz (old ++ new))).σ.at r c.nx = some (.cells c.nx false e fz (old ++ new)) :=
      Store.at_of (by simp [Cx.move, Cx.drew, hr]) rfl
    refine ⟨c.drew.move (.cells arr e) r (.cells c.nx false e fz (old ++ new)), .value (.slice (some ⟨c.w.heap.size, 0, none⟩) (n + m) newCap), _, ?_, .inl ⟨_, rfl, ?_⟩, hsim, (Ext.drew c).trans he, by simpa [Cx.st, Cx.move, Cx.drew, Blk.st, Nat.max_eq_right (Nat.le_succ c.nx)] using hk⟩
    · simp only [Sem.run_bind, hrun]; rfl
    · simp only [RepV]
      refine ⟨⟨_, _, rfl⟩, by simp only [Cx.move, Blk.st]; omega, fun blk hb => ⟨fun hv => ?_, fun hv => ?_⟩⟩
      · exfalso
        rw [hat] at hb
        cases hb
        cases hv
      · rw [hι]
        exact ⟨0, newCap, arr, e, (0, 0), rfl, hcap, hh, fun _ => ⟨by simp, by rw [hsize]; simp⟩⟩
  split at h
  · simp only [RepV] at hx
    cases h
    exact fresh (by intro x h; cases h) hx hK
  · simp only [RepV] at hx
    cases h
    obtain ⟨base, hx, hbs⟩ := hx
    exact fresh hbs hx hK
  · rename_i k' n cs _
    split at h
    · rename_i hcond
      obtain ⟨hk', hm0⟩ := hcond
      subst hk'
      have hx0 := hx
      simp only [RepV] at hx
      obtain ⟨hcl, hx⟩ := hx
      have hux : ∃ base cap, ux = .slice base n cap ∧ n ≤ cap := by
        rcases hx with ⟨_, hn0, hv⟩ | ⟨b, off, cap, hv, hcap, _⟩
        · exact ⟨none, 0, by rw [hv, hn0], by omega⟩
        · exact ⟨_, _, hv, hcap⟩
      obtain ⟨base, cap, hux, hle⟩ := hux
      cases h
      subst hm0
      have hvs : vs = [] := by
        have := hrv.length
        rw [hnl] at this
        simp at this
        exact List.eq_nil_of_length_eq_zero this.symm
      subst hvs
      have hrun := hfits (base := base) (n := n) (cap := cap) hle
      rw [hux] at hx0 ⊢
      refine ⟨c, .value (.slice base n cap), _, ?_, .inl ⟨_, rfl, hx0⟩, hs, Ext.refl c, hK⟩
      simp only [Sem.run_bind, hrun]
      cases base with
      | none => simp
      | some a => simp [storeCells]
    · cases h
  · rename_i r st i0 n k' _
    split at h
    · rename_i hcond
      obtain ⟨hk', hn⟩ := hcond
      have hx0 := hx
      simp only [RepV] at hx
      obtain ⟨⟨base, cap, hux⟩, hstlt, hx⟩ := hx
      have same : n + 0 ≤ cap → m = 0 → K (.gr r st i0 n k') c.st → Stepped1 P c (do pure (.value (← F ux))) K := by
        intro hle hm0 hk
        subst hm0
        have hvs : vs = [] := by
          have := hrv.length
          rw [hnl] at this
          simp at this
          exact List.eq_nil_of_length_eq_zero this.symm
        subst hvs
        have hrun := hfits (base := base) (n := n) (cap := cap) hle
        rw [hux] at hx0 ⊢
        refine ⟨c, .value (.slice base n cap), _, ?_, .inl ⟨_, rfl, hx0⟩, hs, Ext.refl c, hk⟩
        simp only [Sem.run_bind, hrun]
        cases base with
        | none => simp
        | some a => simp [storeCells]
      split at h
      · rename_i st' T fz cs hat
        obtain ⟨hn0, base', hbe, _⟩ := (hx _ hat).1 rfl
        rw [hux] at hbe
        cases hbe
        split at h
        · rename_i hm0
          cases h
          exact same (by omega) hm0 hK
        · rename_i hm0
          cases h
          obtain ⟨g1, g2⟩ := Store.at_some hat
          refine moved (r := r) (fz := 0) (old := []) hux hm0 (by omega) (by omega) (by simp) (by omega) (lt_of_get g1) ⟨[], ?_, by simp [RepL], by simp⟩ (by simpa using hK)
          cases base <;> simp [Builtin.firstCells, loadCells, loadCellsFrom]
      · rename_i st' T' fz old hat
        obtain ⟨off, cap', arr, T2, fz2, hbe, hcap, e3, e4⟩ := (hx _ hat).2 rfl
        rw [hux] at hbe
        cases hbe
        split at h
        · rename_i hm0
          cases h
          exact same (by omega) hm0 hK
        · rename_i hm0
          split at h
          · rename_i hcond2
            obtain ⟨hT, hnold, hfz, hsh⟩ := hcond2
            cases h
            subst hk'
            obtain ⟨g1, g2⟩ := Store.at_some hat
            by_cases hfit : n + m ≤ cap
            · subst hT
              obtain ⟨b1, b2⟩ := hs.blk r _ g1
              simp only [BlkRep] at b1
              obtain ⟨arr0, fzr, q1, q2, q3, q4⟩ := b1.2 trivial
              rw [e3] at q1
              cases q1
              obtain ⟨w1, w2⟩ := e4 (by omega)
              obtain ⟨d, hd⟩ : ∃ d, d = (c.loc r).2 := ⟨_, rfl⟩
              rw [← hd] at q2 q3 q4 w1 w2
              have hD := w1
              have hvl : vs.length = m * i.size := by rw [← hrv.length]; exact hnl
              have hroom : off + (n * i.size + m * i.size) ≤ arr.size := by
                have h1 := Nat.mul_le_mul_right i.size hfit
                rw [Nat.add_mul] at h1 w2
                omega
              have hrun := hfits (base := some ⟨(c.loc r).1, off, none⟩) (n := n) (cap := cap) hfit
              simp only [add_none] at hrun
              obtain ⟨w', arr', k1, k2, k3, k4, k5, k6, k7, k8, k9⟩ := run_stores P (c.loc r).1 (off + n * i.size) vs 0 c.w arr T' fz2 e3 (fun j hj1 hj2 => q2.1 j (by omega) (by omega) hj2) (by omega) hv1
              simp only [Nat.add_zero] at k4
              have hw : Wrote c (c.loc r).1 w' := ⟨k5, k6, fun arr0 T0 fz0 h0 => by rw [e3] at h0; cases h0; exact ⟨arr', fz2, k2, k3⟩, k7, k8, k9⟩
              obtain ⟨fz', hfz'⟩ : ∃ fz', fz' = (if i0 = 0 then fz else 1) := ⟨_, rfl⟩
              obtain ⟨bl, hbl⟩ : ∃ bl, bl = (old.drop (i0 * i.size)).take (n * i.size) ++ new := ⟨_, rfl⟩
              rw [← hfz', ← hbl] at hK
              have hst : c.nx ≤ (Blk.cells c.nx false T' fz' bl).st := Nat.le_refl _
              have hloc : (c.putAt w' r off (.cells c.nx false T' fz' bl)).loc r = ((c.loc r).1, off) := by simp [Cx.putAt]
              have hsim : Sim P (c.putAt w' r off (.cells c.nx false T' fz' bl)) := Sim.putAt hs g1 rfl hw hst fun he => by
                simp only [BlkRep]
                rw [hloc]
                refine ⟨fun h => (by cases h), fun _ => ⟨arr', fz2, k2, ?_, ?_, ?_⟩⟩
                · rw [k3, hfz']
                  split
                  · rename_i hi0
                    rw [hi0] at hD
                    rw [show off = d from by omega]
                    exact q2
                  · rename_i hi0
                    have : fz ≤ 1 := hsh.resolve_left hi0
                    exact ⟨fun j h1 h2 h3 => q2.1 j (by omega) (by omega) h3, fun h => absurd rfl h⟩
                · rw [k3, hbl]; simp only [List.length_append, List.length_take, List.length_drop, hnl]; omega
                · obtain ⟨ys, y1, y2, y3, y4⟩ := q4.vals
                  have hys : ys = (arr.toList.drop d).take old.length := by
                    apply List.ext_getElem?
                    intro j
                    rw [List.getElem?_take]
                    split
                    · rename_i hj
                      rw [← y1] at hj
                      have := y2 j ys[j] (List.getElem?_eq_getElem hj)
                      rw [List.getElem?_eq_getElem hj]
                      simp [World.cell?, e3] at this
                      rw [List.getElem?_drop]
                      simpa using this.symm
                    · rename_i hj
                      rw [List.getElem?_eq_none (by omega)]
                  subst hys
                  have t1 : (((arr.toList.drop d).take old.length).drop (i0 * i.size)).take (n * i.size) = (arr.toList.drop off).take (n * i.size) := by
                    rw [List.drop_take, List.take_take, List.drop_drop, hD]
                    congr 1
                    omega
                  refine RepAt.of_vals (ys := (arr.toList.drop off).take (n * i.size) ++ vs) ?_ (fun j y hj => ?_) (fun y hy => ?_)
                  · have hrl := (((RepL.mono he _ _ y3).drop (i0 * i.size)).take (n * i.size)).append (RepL.mono he _ _ hrv)
                    rw [← hbl, t1] at hrl
                    exact hrl
                  · have hcell : (c.putAt w' r off (.cells c.nx false T' fz' bl)).w.cell? ⟨(c.loc r).1, off + j, none⟩ = arr'.toList[off + j]? := by
                      simp [Cx.putAt, World.cell?, k2]
                    refine hcell.trans ?_
                    rw [k4]
                    exact repl_get (L := 0) (by simpa using hj) (by rw [Array.length_toList]; omega)
                  · rcases List.mem_append.1 hy with hy | hy
                    · rw [← t1] at hy; exact y4 y (List.mem_of_mem_drop (List.mem_of_mem_take hy))
                    · exact hv1 y hy
              have hat2 : (c.putAt w' r off (.cells c.nx false T' fz' bl)).σ.at r c.nx = some (.cells c.nx false T' fz' bl) :=
                Store.at_of (by simp [Cx.putAt, lt_of_get g1]) rfl
              rw [hux]
              refine ⟨c.putAt w' r off (.cells c.nx false T' fz' bl), .value (.slice (some ⟨(c.loc r).1, off, none⟩) (n + m) cap), _, ?_, .inl ⟨_, rfl, ?_⟩, hsim, Ext.putAt hs g1 rfl hw hst, by simpa [Cx.st, Cx.putAt, Blk.st, Nat.max_eq_right (Nat.le_succ c.nx)] using hK⟩
              · simp only [Sem.run_bind, hrun, k1, Result.andThen_ok, Sem.run_pure]; rfl
              · simp only [RepV]
                refine ⟨⟨_, _, rfl⟩, by simp only [Cx.putAt, Blk.st]; omega, fun blk hb => ⟨fun hv => ?_, fun hv => ?_⟩⟩
                · exfalso
                  rw [hat2] at hb
                  cases hb
                  cases hv
                · rw [hloc]
                  exact ⟨off, cap, arr', T', fz2, rfl, hfit, k2, fun _ => ⟨by simp, by rw [k3]; rw [Nat.add_mul] at w2; simp only [Nat.zero_add]; omega⟩⟩
            · have hcs : cellsOfSlice c.drew.σ i.size (.gr r st i0 n i.size) = some (n, (old.drop (i0 * i.size)).take (n * i.size)) := by
                have hat' : c.drew.σ.at r st = some (.cells st' false T' fz old) := hat
                simp [cellsOfSlice, hat', hnold]
              obtain ⟨ya2, cap2, hv2, hl2, hold⟩ := slice_cells0 (P := P) (c := c.drew) hs.drew (fun _ h => by cases h) hcs (hx0.mono (Ext.drew c))
              rw [hux] at hv2 hold
              have hsm : (if i0 = 0 then fz else 1) ≤ n * i.size + 1 := by
                by_cases hi0 : i0 = 0
                · rw [if_pos hi0]; rw [hi0] at hfz; omega
                · rw [if_neg hi0]; omega
              exact moved (r := r) (fz := if i0 = 0 then fz else 1) (old := (old.drop (i0 * i.size)).take (n * i.size)) hux hm0 (by omega) hn (by simp; omega) hsm (lt_of_get g1) hold (by subst hT; exact hK)
          · cases h
      · cases h
    · cases h
  · cases h
theorem step_append {t u e : TypeId} {i : TypeInfo} {z : List AV} {ty : TypeId} {m : Nat} {x y : AV} {ux uy : Value} {new : List AV} (hs : Sim P c)
    (ht : P.underlying t = some (.slice e)) (hu : SrcT P u) (hi : P.info? e = some i) (hb : i.bytes ≤ 4096) (hz : tzero P e = some z) (hzl : z.length = i.size)
    (hx : RepV c x ux) (hy : RepV c y uy) (hc : cellsOfSlice c.σ i.size y = some (m, new))
    (h : match xappend c.σ e i.size x m new c.nx with | some (v, σ') => K v σ' | none => False) :
    Stepped1 P c (do pure (.value (← Builtin.append_ #[t, u] ty #[ux, uy]))) K := by
  have hsz : tsz P e = some i.size := by simp [tsz, hi]
  obtain ⟨hy', hnl, vs, hfc, hrv, hv1⟩ := slice_cells (P := P) hs hc hy
  obtain ⟨_, _, vs', hfc', hrv', hv1'⟩ := slice_cells (P := P) (c := c.drew) hs.drew hc (hy.mono (Ext.drew c))
  exact step_app (F := fun ux => Builtin.append_ #[t, u] ty #[ux, uy]) hs hx hnl hrv hv1 (fun hle => append_fits ht hu hsz hle hy' hfc)
    (fun _ hlt hle hol hold => append_grows hs ht hu hi hb hz hzl hlt hle hy' hol hnl hold ⟨vs', hfc', hrv', hv1'⟩) h
end
end Hb
end
