/- A layer for programs of small data: values, stores, code, and an evaluator of code that the kernel runs; part 5. -/
import Derived.Test.YtfglajmanbjogaaGreatDoorH4

section
set_option linter.unusedVariables false
set_option linter.unusedSimpArgs false
set_option linter.constructorNameAsVariable false
set_option autoImplicit false
set_option linter.unusedSimpArgs false
set_option linter.unusedVariables false
set_option linter.constructorNameAsVariable false
namespace Hb
open Go

/-! ## The statement 'for .. := range f' -/

/-- The temporaries of the list alone. -/
noncomputable def pickF (L : List Nat) (f : Nat → AV) : Nat → AV :=
  List.rec (motive := fun _ => Nat → AV) (fun _ => .u) (fun t _ ih n => cond (Nat.beq n t) (f t) (ih n)) L

theorem pickF_eq (L : List Nat) (f : Nat → AV) (n : Nat) : pickF L f n = f n ∨ pickF L f n = .u := by
  induction L with
  | nil => exact .inr rfl
  | cons t L ih =>
    have : pickF (t :: L) f n = cond (Nat.beq n t) (f t) (pickF L f n) := rfl
    rw [this]
    cases hb : Nat.beq n t with
    | true => rw [Nat.eq_of_beq_eq_true hb]; exact .inl rfl
    | false => exact ih

/-- Behind the function that was ranged over. -/
def RangeEnd (r st : Nat) (ρ : Env) (Q : XExit → Env → St → Prop) (σ : St) : Prop :=
  match σ.1.at r st with
  | some (.loop _ state pe _ _ _ _ _ _ _) => state ≠ .busy ∧ match pe with
    | none | some .normal => Q .normal ρ (σ.1.set r none, σ.2)
    | some e => Q e ρ (σ.1.set r none, σ.2)
  | _ => False

section
variable {P : Prg} {c : Cx} {N : Nat} {ρ : Env} {a : Act} {σ : St} {Q : XExit → Env → St → Prop}

theorem comp_un {hn : XC} {code : Code} {x : XC} (h : comp P N hn code = some x) : x.un = x := by
  cases code with
  | region id ops dr =>
    cases dr <;> simp [comp, Option.bind_eq_some_iff, Option.map_eq_some_iff] at h
    · obtain ⟨_, _, rfl⟩ := h; rfl
    · obtain ⟨_, _, _, _, rfl⟩ := h; rfl
  | seq a b => simp [comp, Option.bind_eq_some_iff, Option.map_eq_some_iff] at h; obtain ⟨_, _, _, _, rfl⟩ := h; rfl
  | cond c a b => simp [comp, Option.bind_eq_some_iff, Option.map_eq_some_iff] at h; obtain ⟨_, _, _, _, _, _, rfl⟩ := h; rfl
  | block id a => simp [comp, Option.bind_eq_some_iff, Option.map_eq_some_iff] at h; obtain ⟨_, _, rfl⟩ := h; rfl
  | loop a => simp [comp, Option.bind_eq_some_iff, Option.map_eq_some_iff] at h; obtain ⟨_, _, rfl⟩ := h; rfl
  | rangeFunc f ps a b => simp [comp, Option.bind_eq_some_iff, Option.map_eq_some_iff] at h; obtain ⟨_, _, _, _, _, _, rfl⟩ := h; rfl
  | _ => simp [comp] at h; subst h; rfl

theorem reT_un {h x : XC} (hx : x.un = x) : (reT h x).un = x := by cases h <;> first | exact hx | rfl

theorem comp_range {hn : XC} {code : Code} {g : XO} {ps L : List Nat} {xa xb : XC} (h : comp P N hn code = some (.range g ps L xa xb)) :
    ∃ go pa a b ha hb, code = .rangeFunc go pa a b ∧ compO P go = some g ∧ pa.toList = ps ∧ comp P N ha a = some xa.un ∧ comp P N hb b = some xb.un := by
  cases code with
  | region id ops dr => cases dr <;> simp [comp, Option.bind_eq_some_iff, Option.map_eq_some_iff] at h
  | rangeFunc go pa a b =>
    simp only [comp, Option.bind_eq_some_iff, Option.map_eq_some_iff] at h
    obtain ⟨f, hf, x, hx, y, hy, he⟩ := h
    cases he
    exact ⟨go, pa, a, b, _, _, rfl, hf, rfl, by rw [reT_un (comp_un hx)]; exact hx, by rw [reT_un (comp_un hy)]; exact hy⟩
  | _ => simp [comp, Option.bind_eq_some_iff, Option.map_eq_some_iff] at h

/-- The loop's record is laid. -/
theorem push_loop {ρ0 : Nat → AV} {ha hb : XC} (hs : Sim P c) (hr : RepT c N ρ0 a.tmps) {fn : FuncId} {pa : Array Tmp} {as bo : Code} {ps : List Nat} {xa xb : XC} {dr ds b : Nat} (hpa : pa.toList = ps) (hps : ∀ p ∈ ps, p < N) (h1 : comp P N ha as = some xa.un) (h2 : comp P N hb bo = some xb.un) (o1 : XOk P N xa) (o2 : XOk P N xb)
    (hds : ds < c.nx) (hd : ∀ blk, c.σ.at dr ds = some blk → blk.virt = false → b = c.ι dr) :
    ∃ c' : Cx, c'.w = c.w.alloc (.loop { state := .ready, pending := none, fn, tmps := a.tmps, params := pa, assign := as, body := bo, defers := b }) ∧ c'.st = (c.σ ++ [some (.loop c.nx .ready none N ρ0 ps xa xb dr ds)], c.nx + 1) ∧
      Sim P c' ∧ Ext c c' ∧ RepV c' (.fy c.σ.length c.nx) (.func (.yield c.w.heap.size) #[] #[]) := by
  have hst : (Blk.loop c.nx .ready none N ρ0 ps xa xb dr ds).st = c.nx := rfl
  let o : Obj := .loop { state := .ready, pending := none, fn, tmps := a.tmps, params := pa, assign := as, body := bo, defers := b }
  have he := Ext.push hs o _ hst
  refine ⟨c.push o (.loop c.nx .ready none N ρ0 ps xa xb dr ds), rfl, rfl, ?_, he, ?_⟩
  · refine Sim.push hs o _ hst fun he => ?_
    simp only [BlkRep]
    refine ⟨{ state := .ready, pending := none, fn, tmps := a.tmps, params := pa, assign := as, body := bo, defers := b }, ?_, rfl, rfl, hr.mono he, hpa, ⟨_, h1, o1⟩, ⟨_, h2, o2⟩, hps, Nat.lt_of_lt_of_le hds he.nx, fun blk hb hv => ?_⟩
    · simp only [Cx.push, upd_same]
      exact heap_alloc_new c.w _
    · obtain ⟨blk0, g1, g2, g3⟩ := he.at hds hb
      rw [g3 (g2.trans hv)]
      exact hd blk0 g1 (g2.trans hv)
  · simp only [RepV]
    refine ⟨⟨_, rfl⟩, by simp [Cx.push], fun blk hb hv => ?_⟩
    simp [Cx.push]

/-- Behind the call. -/
theorem range_back {c c2 : Cx} {r st : Nat} {ρ' : Env} {l : Option Nat} {a' : Act} {e : Ending} {w' : World} {lr : Nat} (hst : st < c2.nx) (hat2 : ∃ blk, c2.σ.at r st = some blk ∧ blk.virt = false) (hlr : c2.ι r = lr) (he2 : Ext c c2) (hrep : RepA c2 N ρ' a')
    (h : ∃ (c' : Cx) (v : Value) (av : AV), e = .returned v ∧ c'.w = w' ∧ Sim P c' ∧ Ext c2 c' ∧ RepV c' av v ∧ RangeEnd r st ρ' Q c'.st) :
    rangePost (Fw l) 0 P lr (APost P c N Q) a' e w' := by
  obtain ⟨c', v, av, rfl, rfl, k1, k2, k3, k4⟩ := h
  unfold RangeEnd at k4
  split at k4
  · rename_i st' state pe N' ρl ps xa xb dr ds hat
    obtain ⟨hbusy, k4⟩ := k4
    have hat : c'.σ.at r st = some (.loop st' state pe N' ρl ps xa xb dr ds) := hat
    have hι : c'.ι r = lr := by
      obtain ⟨blk, q1, q2, q3⟩ := k2.at hst hat
      rw [q3 q2]; exact hlr
    obtain ⟨g1, g2⟩ := Store.at_some hat
    obtain ⟨lo, e1, e2, e3, _⟩ := loop_put k1 hat
    rw [hι] at e1
    have hw : Wrote c' (c'.ι r) (c'.w.putObj lr (.loop { lo with state := .exhausted })) := by
      rw [hι]; exact Wrote.putObj e1 (fun _ _ _ h => by cases h)
    obtain ⟨s2, x2⟩ := put_kill k1 g1 rfl hw
    refine ⟨pe.bind XExit.code, c'.w.putObj lr (.loop { lo with state := .exhausted }), by rw [← e3]; exact run_endLoop e1 (by rw [e2]; exact hbusy), ?_⟩
    have hx := he2.trans (k2.trans x2)
    have hr2 : RepA ⟨c'.w.putObj lr (.loop { lo with state := .exhausted }), c'.σ.set r none, c'.ι, c'.nx, c'.n0⟩ N ρ' a' := hrep.mono (k2.trans x2)
    cases pe with
    | none => exact ⟨_, ρ', .normal, rfl, s2, hx, hr2, rfl, k4⟩
    | some e' => cases e' with
      | normal => exact ⟨_, ρ', .normal, rfl, s2, hx, hr2, rfl, k4⟩
      | exit id => exact wpIn_exit ⟨_, ρ', .exit id, rfl, s2, hx, hr2, rfl, k4⟩
      | ret => exact wpIn_ret ⟨_, ρ', .ret, rfl, s2, hx, hr2, rfl, k4⟩
  · exact k4.elim

theorem AX.range {g : XO} {ps L : List Nat} {xa xb : XC} {gf : FuncId} {first cap : List AV} (hg : g.ev ρ.f = .fn (.func gf) first cap) (hps : ∀ p ∈ ps, p < N)
    (h : ACall P gf (first ++ [.fy (σ.1.length + 1) (σ.2 + 1)] ++ cap) (σ.1 ++ [some (.dfr σ.2)] ++ [some (.loop (σ.2 + 1) .ready none N (pickF L ρ.f) ps xa xb σ.1.length σ.2)], σ.2 + 1 + 1)
      fun _ σ' => RangeEnd (σ.1.length + 1) (σ.2 + 1) ⟨ρ.f, (σ.1.length, σ.2) :: ρ.d⟩ Q σ') : AX P N none (.range g ps L xa xb) ρ σ Q := by
  intro hk hn code hc c a l hσ hs ha hrd
  subst hσ
  obtain ⟨go, pa, as, bo, _, _, rfl, hgo, hpa, h1, h2⟩ := comp_range hc
  have hpk : RepT c N (pickF L ρ.f) a.tmps := ⟨ha.t.1, fun t => by
    rcases pickF_eq L ρ.f t with e | e
    · rw [e]; exact ha.t.2 t
    · rw [e]; simp only [RepV]⟩
  cases l with
  | some l => exact hrd.elim
  | none =>
    refine wpIn_rangeFunc fun fn _ => ?_
    have hgr := compO_rep hs ha.t hgo
    rw [hg] at hgr
    simp only [RepV] at hgr
    obtain ⟨f', cp', hv, hf1, hc1⟩ := hgr
    -- the block for the deferred calls
    have hst1 : (Blk.dfr c.nx).st = c.nx := rfl
    have x1 := Ext.push hs (.deferred (some [])) (.dfr c.nx) hst1
    have s1 : Sim P (c.push (.deferred (some [])) (.dfr c.nx)) := Sim.push hs _ _ hst1 fun he => by
      simp only [BlkRep, Cx.push, upd_same]
      exact heap_alloc_new c.w _
    have hat1 : (c.push (.deferred (some [])) (.dfr c.nx)).σ.at c.σ.length c.nx = some (.dfr c.nx) := Store.at_of (by simp [Cx.push]) rfl
    have hι1 : (c.push (.deferred (some [])) (.dfr c.nx)).ι c.σ.length = c.w.heap.size := by simp [Cx.push]
    obtain ⟨c2, e1, e2, s2, x2, r2⟩ := push_loop (fn := fn) (pa := pa) (as := as) (bo := bo) (ps := ps) (dr := c.σ.length) (ds := c.nx) (b := c.w.heap.size) s1 (hpk.mono x1) hpa hps h1 h2 hk.1 hk.2 (by simp [Cx.push]) (fun blk hb hv => hι1.symm)
    have hlen : (c.push (.deferred (some [])) (.dfr c.nx)).σ.length = c.σ.length + 1 := by simp [Cx.push]
    have hnx : (c.push (.deferred (some [])) (.dfr c.nx)).nx = c.nx + 1 := rfl
    have hsz : (c.push (.deferred (some [])) (.dfr c.nx)).w.heap.size = c.w.heap.size + 1 := by simp [Cx.push]
    rw [hlen, hnx, hsz] at r2
    rw [hnx] at e2
    have hw2 : c2.w = (c.w.alloc (.deferred (some []))).alloc (.loop { state := .ready, pending := none, fn, tmps := a.tmps, params := pa, assign := as, body := bo, defers := c.w.heap.size }) := e1
    have hst2 : c2.st = (c.σ ++ [some (.dfr c.nx)] ++ [some (.loop (c.nx + 1) .ready none N (pickF L ρ.f) ps xa xb c.σ.length c.nx)], c.nx + 1 + 1) := e2
    have x02 := x1.trans x2
    have hrep2 : RepL c2 (first ++ [.fy (c.σ.length + 1) (c.nx + 1)] ++ cap) (f'.toList ++ [Value.func (.yield (c.w.heap.size + 1)) #[] #[]] ++ cp'.toList) :=
      ((RepL.mono x02 _ _ hf1).append (by simp only [RepL]; exact ⟨_, [], rfl, r2, rfl⟩)).append (RepL.mono x02 _ _ hc1)
    have hcall := h.2 c2 _ hst2 s2 hrep2
    refine ⟨c.w.heap.size + 1, [{ target := .collected c.w.heap.size, args := #[] }], c2.w, ⟨.fn (.func gf) cp', f' ++ #[Value.func (.yield (c.w.heap.size + 1)) #[] #[]]⟩, c2.w, gf, (f'.toList ++ [Value.func (.yield (c.w.heap.size + 1)) #[] #[]] ++ cp'.toList).toArray, c2.w, ?_, ?_, fun f _ => Fw_fn none f, ?_, fun h => (by cases h), ?_⟩
    · rw [hw2]
      exact run_enterLoop_outer fn a.tmps pa as bo
    · simp only [resolve, rangeCall, Deferred.ofValue, hv, Sem.run_pure]
      simp [Act.eval]
    · simp only [invoke]
      rw [run_callFunc_body h.1]
      simp
    · refine CallsIn.mono hcall fun e w' hR => ?_
      refine range_back (c2 := c2) (r := c.σ.length + 1) (st := c.nx + 1) (ρ' := ⟨ρ.f, (c.σ.length, c.nx) :: ρ.d⟩) (l := none) ?_ ?_ ?_ x02 ?_ hR
      · have := congrArg Prod.snd hst2
        simp only [Cx.st] at this
        omega
      · have := congrArg Prod.fst hst2
        simp only [Cx.st] at this
        refine ⟨_, Store.at_of (b := .loop (c.nx + 1) .ready none N (pickF L ρ.f) ps xa xb c.σ.length c.nx) ?_ rfl, rfl⟩
        rw [this]
        simp
      · simp only [RepV] at r2
        have hat : c2.σ.at (c.σ.length + 1) (c.nx + 1) = some (.loop (c.nx + 1) .ready none N (pickF L ρ.f) ps xa xb c.σ.length c.nx) := by
          have := congrArg Prod.fst hst2
          simp only [Cx.st] at this
          refine Store.at_of ?_ rfl
          rw [this]; simp
        have := r2.2.2 _ hat rfl
        injection this with this
        injection this with this
        exact this.symm
      · have hm := ha.mono x02
        refine ⟨hm.t, ⟨by simp [hm.d.1], fun i p hi => ?_⟩⟩
        cases i with
        | zero =>
          simp only [List.getElem?_cons_zero, Option.some.injEq] at hi
          subst hi
          refine ⟨Nat.lt_of_lt_of_le (by simp [Cx.push]) x2.nx, c.w.heap.size, by simp, fun blk hb hv => ?_⟩
          obtain ⟨blk0, q1, q2, q3⟩ := x2.at (show c.nx < (c.push (.deferred (some [])) (.dfr c.nx)).nx by simp [Cx.push]) hb
          rw [q3 (q2.trans hv)]
          exact hι1.symm
        | succ i =>
          simp only [List.getElem?_cons_succ] at hi
          have := hm.d.2 i p hi
          simpa using this

end
end Hb
end

section
set_option linter.unusedVariables false
set_option linter.unusedSimpArgs false
set_option linter.constructorNameAsVariable false
set_option autoImplicit false
set_option linter.unusedSimpArgs false
set_option linter.unusedVariables false
set_option linter.constructorNameAsVariable false
namespace Hb
open Go

/-! ## A store that is quick to evaluate -/

inductive TR where
  | e
  | n (v : Option Blk) (a b : TR)

def TR.v : TR → Option Blk
  | .e => none
  | .n v _ _ => v

def TR.a : TR → TR
  | .e => .e
  | .n _ a _ => a

def TR.b : TR → TR
  | .e => .e
  | .n _ _ b => b

noncomputable def TR.get (t : TR) (k : Nat) : Option Blk :=
  TR.rec (motive := fun _ => Nat → Option Blk) (fun _ => none)
    (fun v _ _ ia ib k => cond (Nat.beq k 1) v (cond (Nat.beq (Nat.mod k 2) 0) (ia (Nat.div k 2)) (ib (Nat.div k 2)))) t k

noncomputable def TR.set (f : Nat) (t : TR) (k : Nat) (v : Option Blk) : TR :=
  Nat.rec (motive := fun _ => TR → Nat → TR) (fun t _ => t)
    (fun _ ih t k => cond (Nat.beq k 1) (.n v t.a t.b) (cond (Nat.beq (Nat.mod k 2) 0) (.n t.v (ih t.a (Nat.div k 2)) t.b) (.n t.v t.a (ih t.b (Nat.div k 2))))) f t k

theorem beqN (a b : Nat) : Nat.beq a b = decide (a = b) := by
  rw [Bool.eq_iff_iff, Nat.beq_eq, decide_eq_true_eq]

theorem TR.get_e (k : Nat) : TR.get .e k = none := rfl
theorem TR.get_n (v : Option Blk) (a b : TR) (k : Nat) : TR.get (.n v a b) k = if k = 1 then v else if k % 2 = 0 then a.get (k / 2) else b.get (k / 2) := by
  show cond (Nat.beq k 1) v (cond (Nat.beq (Nat.mod k 2) 0) (a.get (Nat.div k 2)) (b.get (Nat.div k 2))) = _
  rw [beqN, beqN]
  show cond (decide (k = 1)) v (cond (decide (k % 2 = 0)) (a.get (k / 2)) (b.get (k / 2))) = _
  by_cases h : k = 1
  · simp [h]
  · by_cases h2 : k % 2 = 0 <;> simp [h, h2]

theorem TR.get_eq (t : TR) {k : Nat} (hk : 0 < k) : t.get k = if k = 1 then t.v else if k % 2 = 0 then t.a.get (k / 2) else t.b.get (k / 2) := by
  cases t with
  | e => simp [TR.get_e, TR.v, TR.a, TR.b]
  | n v a b => exact TR.get_n v a b k

theorem TR.set_succ (f : Nat) (t : TR) (k : Nat) (v : Option Blk) : TR.set (f + 1) t k v = if k = 1 then .n v t.a t.b else if k % 2 = 0 then .n t.v (TR.set f t.a (k / 2) v) t.b else .n t.v t.a (TR.set f t.b (k / 2) v) := by
  show cond (Nat.beq k 1) (TR.n v t.a t.b) (cond (Nat.beq (Nat.mod k 2) 0) (.n t.v (TR.set f t.a (k / 2) v) t.b) (.n t.v t.a (TR.set f t.b (k / 2) v))) = _
  rw [beqN, beqN]
  show cond (decide (k = 1)) (TR.n v t.a t.b) (cond (decide (k % 2 = 0)) (.n t.v (TR.set f t.a (k / 2) v) t.b) (.n t.v t.a (TR.set f t.b (k / 2) v))) = _
  by_cases h : k = 1
  · simp [h]
  · by_cases h2 : k % 2 = 0 <;> simp [h, h2]

theorem TR.get_set (v : Option Blk) : ∀ (f : Nat) (t : TR) (k j : Nat), 0 < k → k < 2 ^ f → 0 < j → (TR.set f t k v).get j = if j = k then v else t.get j := by
  intro f
  induction f with
  | zero => intro t k j h1 h2; omega
  | succ f ih =>
    intro t k j h1 h2 h3
    rw [TR.set_succ, TR.get_eq t h3]
    have hp : 2 ^ (f + 1) = 2 * 2 ^ f := by rw [Nat.pow_succ]; omega
    by_cases hk : k = 1
    · subst hk
      simp only [if_true, TR.get_n]
      by_cases hj : j = 1 <;> simp [hj]
    · simp only [hk, if_false]
      by_cases hk2 : k % 2 = 0
      · simp only [hk2, if_true, TR.get_n]
        by_cases hj : j = 1
        · simp [hj, show ¬ 1 = k from by omega]
        · simp only [hj, if_false]
          by_cases hj2 : j % 2 = 0
          · simp only [hj2, if_true]
            rw [ih t.a (k / 2) (j / 2) (by omega) (by omega) (by omega)]
            by_cases e : j = k
            · simp [e]
            · simp [e, show ¬ j / 2 = k / 2 from by omega]
          · simp [hj2, show ¬ j = k from by omega]
      · simp only [hk2, if_false, TR.get_n]
        by_cases hj : j = 1
        · simp [hj, show ¬ 1 = k from by omega]
        · simp only [hj, if_false]
          by_cases hj2 : j % 2 = 0
          · simp [hj2, show ¬ j = k from by omega]
          · simp only [hj2, if_false]
            rw [ih t.b (k / 2) (j / 2) (by omega) (by omega) (by omega)]
            by_cases e : j = k
            · simp [e]
            · simp [e, show ¬ j / 2 = k / 2 from by omega]

structure ES where
  t : TR
  n : Nat
  nx : Nat

noncomputable def ES.st (s : ES) : St := ((List.range s.n).map fun r => s.t.get (r + 1), s.nx)

/-- So many blocks there may be. -/
abbrev ES.room : Nat := 40

theorem ES.get? (s : ES) (r : Nat) : s.st.1[r]? = if r < s.n then some (s.t.get (r + 1)) else none := by
  simp only [ES.st, List.getElem?_map]
  by_cases h : r < s.n
  · simp [h]
  · simp [h]

theorem ES.len (s : ES) : s.st.1.length = s.n := by simp [ES.st]

/-- What lies there under the stamp. -/
noncomputable def ES.at (s : ES) (r st : Nat) : Option Blk :=
  cond (Nat.ble (Nat.succ r) s.n) (match s.t.get (Nat.succ r) with | some b => cond (Nat.beq b.st st) (some b) none | none => none) none

theorem ES.at_eq (s : ES) (r st : Nat) : s.at r st = s.st.1.at r st := by
  unfold ES.at Store.at
  rw [ES.get?]
  by_cases h : r < s.n
  · have : Nat.ble (Nat.succ r) s.n = true := Nat.ble_eq_true_of_le h
    simp only [this, h, if_true, cond_true]
    cases s.t.get (Nat.succ r) with
    | none => simp
    | some b =>
      show cond (Nat.beq b.st st) (some b) none = if b.st = st then some b else none
      rw [beqN]
      by_cases hb : b.st = st <;> simp [hb]
  · have : Nat.ble (Nat.succ r) s.n = false := by
      rw [Bool.eq_false_iff]; intro h'; exact h (Nat.le_of_ble_eq_true h')
    simp only [this, h, if_false, cond_false]

noncomputable def ES.push (s : ES) (b : Blk) : ES := ⟨TR.set ES.room s.t (Nat.succ s.n) (some b), Nat.succ s.n, Nat.succ s.nx⟩
noncomputable def ES.put (s : ES) (r : Nat) (b : Option Blk) : ES := ⟨TR.set ES.room s.t (Nat.succ r) b, s.n, s.nx⟩
noncomputable def ES.put1 (s : ES) (r : Nat) (b : Option Blk) : ES := ⟨TR.set ES.room s.t (Nat.succ r) b, s.n, Nat.succ s.nx⟩

theorem ES.push_st (s : ES) (b : Blk) (h : s.n < 1000000000) : (s.push b).st = (s.st.1 ++ [some b], s.st.2 + 1) := by
  refine Prod.ext ?_ rfl
  apply List.ext_getElem?
  intro r
  rw [ES.get?, List.getElem?_append, ES.len, ES.get?]
  simp only [ES.push]
  have hr : (2 : Nat) ^ ES.room = 1099511627776 := by decide
  rw [TR.get_set _ _ _ _ _ (by omega) (by omega) (by omega)]
  by_cases h1 : r < s.n
  · simp [h1, show r < s.n.succ from by omega, show ¬ r = s.n from by omega]
  · by_cases h2 : r = s.n
    · subst h2; simp
    · have h3 : ¬ r < s.n.succ := by omega
      have h4 : r - s.n ≠ 0 := by omega
      simp only [h1, h3, if_false]
      rw [List.getElem?_eq_none (by simp; omega)]

theorem ES.put_st (s : ES) (r : Nat) (b : Option Blk) (h : r < 1000000000) : (s.put r b).st = (s.st.1.set r b, s.st.2) := by
  refine Prod.ext ?_ rfl
  apply List.ext_getElem?
  intro q
  rw [ES.get?, List.getElem?_set, ES.len, ES.get?]
  simp only [ES.put]
  have hr : (2 : Nat) ^ ES.room = 1099511627776 := by decide
  rw [TR.get_set _ _ _ _ _ (by omega) (by omega) (by omega)]
  by_cases h1 : q < s.n
  · by_cases h2 : r = q
    · subst h2; simp [h1]
    · simp [h1, h2, show ¬ q = r from fun e => h2 e.symm]
  · by_cases h2 : r = q
    · subst h2; simp [h1]
    · simp [h1, h2]

theorem ES.put1_st (s : ES) (r : Nat) (b : Option Blk) (h : r < 1000000000) : (s.put1 r b).st = (s.st.1.set r b, s.st.2 + 1) := by
  have := ES.put_st s r b h
  have h1 : (s.put1 r b).st.1 = (s.put r b).st.1 := rfl
  refine Prod.ext ?_ rfl
  rw [h1, this]

end Hb
end

section
set_option linter.unusedVariables false
set_option linter.unusedSimpArgs false
set_option linter.constructorNameAsVariable false
set_option autoImplicit false
set_option linter.unusedSimpArgs false
set_option linter.unusedVariables false
set_option linter.constructorNameAsVariable false
namespace Hb
open Go

/-! ## The evaluator: answers, and how values are forced -/

inductive Ans where
  | ret (v : AV) (s : ES)
  | ex (e : XExit) (f : Nat → AV) (s : ES)

abbrev Res := Option Ans
abbrev KP := AV → Res
abbrev KV := AV → ES → Res

/-- How calls of functions and pieces of code are answered: f: a call of a function that is named; g: a call of a function's value; h: a call of a function with a body; b: a piece of code. -/
structure Rec where
  f : FuncId → List AV → ES → Res
  g : FuncId → List AV → ES → Res
  h : FuncId → List AV → ES → Res
  b : Nat → XC → (Nat → AV) → ES → Res

def kont (o : Option AV) (k : KP) : Res :=
  match o with
  | some v => k v
  | none => none

theorem kont_some {o : Option AV} {k : KP} {a : Ans} (h : kont o k = some a) : ∃ v, o = some v ∧ k v = some a := by
  cases o with
  | none => cases h
  | some v => exact ⟨v, rfl, h⟩

noncomputable def frcN (n : Nat) (k : Nat → Res) : Res := Nat.rec (motive := fun _ => Res) (k 0) (fun p _ => k (Nat.succ p)) n
noncomputable def frcI (n : Int) (k : Int → Res) : Res :=
  Int.casesOn (motive := fun _ => Res) n (fun m => frcN m fun m => k (.ofNat m)) (fun m => frcN m fun m => k (.negSucc m))
noncomputable def frcLA (l : List AV) (k : List AV → Res) : Res :=
  List.rec (motive := fun _ => (List AV → Res) → Res) (fun k => k []) (fun a _ ih k => ih fun t => k (a :: t)) l k
noncomputable def frcLN (l : List Nat) (k : List Nat → Res) : Res :=
  List.rec (motive := fun _ => (List Nat → Res) → Res) (fun k => k []) (fun a _ ih k => frcN a fun a => ih fun t => k (a :: t)) l k

theorem frcN_eq (n : Nat) (k : Nat → Res) : frcN n k = k n := by cases n <;> rfl
theorem frcI_eq (n : Int) (k : Int → Res) : frcI n k = k n := by cases n <;> simp [frcI, frcN_eq]
theorem frcLA_eq : ∀ (l : List AV) (k : List AV → Res), frcLA l k = k l
  | [], k => rfl
  | a :: t, k => by
    have : frcLA (a :: t) k = frcLA t fun t => k (a :: t) := rfl
    rw [this, frcLA_eq t]
theorem frcLN_eq : ∀ (l : List Nat) (k : List Nat → Res), frcLN l k = k l
  | [], k => rfl
  | a :: t, k => by
    have : frcLN (a :: t) k = frcN a fun a => frcLN t fun t => k (a :: t) := rfl
    rw [this, frcN_eq, frcLN_eq t]

noncomputable def bK (t : Bool) (k : KP) : Res := Bool.rec (motive := fun _ => Res) (k (.b false)) (k (.b true)) t
theorem bK_eq (t : Bool) (k : KP) : bK t k = k (.b t) := by cases t <;> rfl

noncomputable def frcV (v : AV) (k : KP) : Res :=
  match v with
  | .i kd n => frcI n fun n => k (.i kd n)
  | .b t => bK t k
  | .s l => frcLN l fun l => k (.s l)
  | .agg l => frcLA l fun l => k (.agg l)
  | .tup l => frcLA l fun l => k (.tup l)
  | .p r st kk i o => frcN i fun i => frcN o fun o => k (.p r st kk i o)
  | .gr r st i n kk => frcN i fun i => frcN n fun n => k (.gr r st i n kk)
  | v => k v

theorem frcV_eq (v : AV) (k : KP) : frcV v k = k v := by
  cases v <;> simp only [frcV, frcI_eq, frcN_eq, frcLN_eq, frcLA_eq, bK_eq]

/-- What is rare. -/
noncomputable def pGen (o : Option AV) (k : KP) : Res :=
  match o with
  | some v => frcV v k
  | none => none
theorem pGen_eq (o : Option AV) (k : KP) : pGen o k = kont o k := by cases o <;> simp [pGen, kont, frcV_eq]

def updB (f : Nat → AV) (t : Nat) (v : AV) : Nat → AV := fun n => cond (Nat.beq n t) v (f n)

theorem updB_eq (f : Nat → AV) (t : Nat) (v : AV) : updB f t v = upd f t v := by
  funext n
  simp only [updB, upd, beqN]
  by_cases h : n = t <;> simp [h]

abbrev putF (f : Nat → AV) (d : Option Nat) (v : AV) : Nat → AV :=
  match d with
  | some t => updB f t v
  | none => f

theorem putF_eq (f : Nat → AV) (l : List (Nat × Nat)) (d : Option Nat) (v : AV) : (⟨putF f d v, l⟩ : Env) = (⟨f, l⟩ : Env).put d v := by
  cases d with
  | none => rfl
  | some t => simp only [putF, Env.put, updB_eq]

/-! ### Lists -/

section
variable {α : Type}
noncomputable def dropK (l : List α) (n : Nat) (k : List α → Res) : Res :=
  Nat.rec (motive := fun _ => List α → Res) (fun l => k l) (fun _ ih l => List.casesOn l (k []) (fun _ t => ih t)) n l
noncomputable def takeK (l : List α) (n : Nat) (k : List α → Res) : Res :=
  Nat.rec (motive := fun _ => List α → (List α → Res) → Res) (fun _ k => k []) (fun _ ih l k => List.casesOn l (k []) (fun a t => ih t fun t => k (a :: t))) n l k
noncomputable def appK (l m : List α) (k : List α → Res) : Res :=
  List.rec (motive := fun _ => (List α → Res) → Res) (fun k => k m) (fun a _ ih k => ih fun t => k (a :: t)) l k
noncomputable def lenR (l : List α) : Nat := List.rec (motive := fun _ => Nat) 0 (fun _ _ ih => Nat.add ih 1) l

theorem dropK_eq : ∀ (n : Nat) (l : List α) (k : List α → Res), dropK l n k = k (l.drop n)
  | 0, l, k => rfl
  | n + 1, [], k => rfl
  | n + 1, a :: t, k => by
    have : dropK (a :: t) (n + 1) k = dropK t n k := rfl
    rw [this, dropK_eq n t]; rfl
theorem takeK_eq : ∀ (n : Nat) (l : List α) (k : List α → Res), takeK l n k = k (l.take n)
  | 0, l, k => rfl
  | n + 1, [], k => rfl
  | n + 1, a :: t, k => by
    have : takeK (a :: t) (n + 1) k = takeK t n fun t => k (a :: t) := rfl
    rw [this, takeK_eq n t]; rfl
theorem appK_eq : ∀ (l m : List α) (k : List α → Res), appK l m k = k (l ++ m)
  | [], m, k => rfl
  | a :: t, m, k => by
    have : appK (a :: t) m k = appK t m fun t => k (a :: t) := rfl
    rw [this, appK_eq t]; rfl
theorem lenR_eq : ∀ (l : List α), lenR l = l.length
  | [] => rfl
  | a :: t => by
    have : lenR (a :: t) = Nat.add (lenR t) 1 := rfl
    rw [this, lenR_eq t]; rfl
end

/-! ### Numbers -/

noncomputable def kNo (k : IntKind) : Nat := IntKind.rec (motive := fun _ => Nat) 0 1 2 3 4 5 6 7 k
noncomputable def kEq (k k' : IntKind) : Bool := Nat.beq (kNo k) (kNo k')
theorem kEq_eq (k k' : IntKind) : kEq k k' = decide (k = k') := by cases k <;> cases k' <;> rfl

def kmax (k : IntKind) : Nat :=
  match k with
  | .i8 => 127 | .i16 => 32767 | .i32 => 2147483647 | .i64 => 9223372036854775807
  | .u8 => 255 | .u16 => 65535 | .u32 => 4294967295 | .u64 => 18446744073709551615

theorem wrap_max (kd : IntKind) (m : Nat) (h : m ≤ kmax kd) : kd.wrap (m : Int) = m := by
  cases kd <;> simp only [kmax] at h <;> simp only [IntKind.wrap, IntKind.bits, IntKind.signed] <;> simp <;> omega

noncomputable def wrapK (kd : IntKind) (n : Int) (k : KP) : Res :=
  Int.casesOn (motive := fun _ => Res) n
    (fun m => cond (Nat.ble m (kmax kd)) (frcN m fun m => k (.i kd (.ofNat m))) (frcI (kd.wrap (.ofNat m)) fun n => k (.i kd n)))
    (fun m => frcI (kd.wrap (.negSucc m)) fun n => k (.i kd n))

theorem wrapK_eq (kd : IntKind) (n : Int) (k : KP) : wrapK kd n k = k (.i kd (kd.wrap n)) := by
  cases n with
  | ofNat m =>
    simp only [wrapK, frcN_eq, frcI_eq]
    cases hb : Nat.ble m (kmax kd) with
    | false => rfl
    | true =>
      have := wrap_max kd m (Nat.le_of_ble_eq_true hb)
      show k (.i kd (.ofNat m)) = k (.i kd (kd.wrap (.ofNat m)))
      rw [show (Int.ofNat m) = (m : Int) from rfl, this]
  | negSucc m => simp only [wrapK, frcI_eq]

noncomputable def iAdd (kd : IntKind) (a b : Int) (k : KP) : Res :=
  match a, b with
  | .ofNat m, .ofNat n => wrapK kd (.ofNat (Nat.add m n)) k
  | a, b => wrapK kd (a + b) k
noncomputable def iSub (kd : IntKind) (a b : Int) (k : KP) : Res :=
  match a, b with
  | .ofNat m, .ofNat n => cond (Nat.ble n m) (wrapK kd (.ofNat (Nat.sub m n)) k) (wrapK kd (.ofNat m - .ofNat n) k)
  | a, b => wrapK kd (a - b) k
noncomputable def iMul (kd : IntKind) (a b : Int) (k : KP) : Res :=
  match a, b with
  | .ofNat m, .ofNat n => wrapK kd (.ofNat (Nat.mul m n)) k
  | a, b => wrapK kd (a * b) k
noncomputable def iQuo (kd : IntKind) (a b : Int) (k : KP) : Res :=
  match a, b with
  | .ofNat m, .ofNat n => cond (Nat.beq n 0) none (wrapK kd (.ofNat (Nat.div m n)) k)
  | a, b => if b = 0 then none else wrapK kd (a.tdiv b) k
noncomputable def iRem (kd : IntKind) (a b : Int) (k : KP) : Res :=
  match a, b with
  | .ofNat m, .ofNat n => cond (Nat.beq n 0) none (frcN (Nat.mod m n) fun r => k (.i kd (.ofNat r)))
  | a, b => if b = 0 then none else frcI (a.tmod b) fun r => k (.i kd r)
def iLt (a b : Int) : Bool :=
  match a, b with
  | .ofNat m, .ofNat n => Nat.ble (Nat.succ m) n
  | a, b => decide (a < b)
def iLe (a b : Int) : Bool :=
  match a, b with
  | .ofNat m, .ofNat n => Nat.ble m n
  | a, b => decide (a ≤ b)
def iEq (a b : Int) : Bool :=
  match a, b with
  | .ofNat m, .ofNat n => Nat.beq m n
  | a, b => decide (a = b)

theorem iAdd_eq (kd : IntKind) (a b : Int) (k : KP) : iAdd kd a b k = k (.i kd (kd.wrap (a + b))) := by
  cases a <;> cases b <;> simp only [iAdd, wrapK_eq] <;> rfl
theorem iSub_eq (kd : IntKind) (a b : Int) (k : KP) : iSub kd a b k = k (.i kd (kd.wrap (a - b))) := by
  cases a with
  | ofNat m => cases b with
    | ofNat n =>
      simp only [iSub, wrapK_eq]
      cases hb : Nat.ble n m with
      | false => rfl
      | true =>
        have := Nat.le_of_ble_eq_true hb
        have e : (Int.ofNat (Nat.sub m n)) = Int.ofNat m - Int.ofNat n := by
          show ((m - n : Nat) : Int) = (m : Int) - (n : Int)
          omega
        rw [cond_true, e]
    | negSucc n => simp only [iSub, wrapK_eq]
  | negSucc m => cases b <;> simp only [iSub, wrapK_eq]
theorem iMul_eq (kd : IntKind) (a b : Int) (k : KP) : iMul kd a b k = k (.i kd (kd.wrap (a * b))) := by
  cases a <;> cases b <;> simp only [iMul, wrapK_eq] <;> rfl
theorem iQuo_eq (kd : IntKind) (a b : Int) (k : KP) : iQuo kd a b k = if b = 0 then none else k (.i kd (kd.wrap (a.tdiv b))) := by
  cases a with
  | ofNat m => cases b with
    | ofNat n =>
      simp only [iQuo, wrapK_eq, beqN]
      by_cases h : n = 0
      · subst h; rfl
      · have : (Int.ofNat n) ≠ 0 := by simpa using h
        simp only [h, decide_false, cond_false, this, if_false]
        rfl
    | negSucc n => simp only [iQuo, wrapK_eq]
  | negSucc m => cases b <;> simp only [iQuo, wrapK_eq]
theorem iRem_eq (kd : IntKind) (a b : Int) (k : KP) : iRem kd a b k = if b = 0 then none else k (.i kd (a.tmod b)) := by
  cases a with
  | ofNat m => cases b with
    | ofNat n =>
      simp only [iRem, frcN_eq, beqN]
      by_cases h : n = 0
      · subst h; rfl
      · have : (Int.ofNat n) ≠ 0 := by simpa using h
        simp only [h, decide_false, cond_false, this, if_false]
        rfl
    | negSucc n => simp only [iRem, frcI_eq]
  | negSucc m => cases b <;> simp only [iRem, frcI_eq]
theorem iLt_eq (a b : Int) : iLt a b = decide (a < b) := by
  cases a <;> cases b <;> simp only [iLt]
  rename_i m n
  rw [Bool.eq_iff_iff, Nat.ble_eq, decide_eq_true_eq]
  show m + 1 ≤ n ↔ (m : Int) < (n : Int)
  omega
theorem iLe_eq (a b : Int) : iLe a b = decide (a ≤ b) := by
  cases a <;> cases b <;> simp only [iLe]
  rename_i m n
  rw [Bool.eq_iff_iff, Nat.ble_eq, decide_eq_true_eq]
  show m ≤ n ↔ (m : Int) ≤ (n : Int)
  omega
theorem iEq_eq (a b : Int) : iEq a b = decide (a = b) := by
  cases a <;> cases b <;> simp only [iEq]
  rename_i m n
  rw [beqN, Bool.eq_iff_iff, decide_eq_true_eq, decide_eq_true_eq]
  show m = n ↔ (m : Int) = (n : Int)
  omega

/-! ### Strings -/

noncomputable def natEqL (l m : List Nat) : Bool :=
  List.rec (motive := fun _ => List Nat → Bool) (fun m => List.casesOn m true (fun _ _ => false)) (fun a _ ih m => List.casesOn m false (fun b t => cond (Nat.beq a b) (ih t) false)) l m
noncomputable def natLtL (l m : List Nat) : Bool :=
  List.rec (motive := fun _ => List Nat → Bool) (fun m => List.casesOn m false (fun _ _ => true)) (fun a _ ih m => List.casesOn m false (fun b t => cond (Nat.beq a b) (ih t) (Nat.ble (Nat.succ a) b))) l m

theorem natEqL_eq : ∀ (l m : List Nat), natEqL l m = (l == m)
  | [], [] => rfl
  | [], _ :: _ => rfl
  | _ :: _, [] => rfl
  | a :: l, b :: m => by
    have : natEqL (a :: l) (b :: m) = cond (Nat.beq a b) (natEqL l m) false := rfl
    rw [this, natEqL_eq l m, beqN]
    by_cases h : a = b <;> simp [h]
theorem natLtL_eq : ∀ (l m : List Nat), natLtL l m = natLess l m
  | [], [] => rfl
  | [], _ :: _ => rfl
  | _ :: _, [] => rfl
  | a :: l, b :: m => by
    have : natLtL (a :: l) (b :: m) = cond (Nat.beq a b) (natLtL l m) (Nat.ble (Nat.succ a) b) := rfl
    rw [this, natLtL_eq l m, beqN]
    simp only [natLess]
    by_cases h : a = b
    · simp [h]
    · simp only [h, decide_false, cond_false]
      have : (a == b) = false := by simpa using h
      rw [this, Bool.false_and, Bool.or_false, Bool.eq_iff_iff, Nat.ble_eq, decide_eq_true_eq]
      exact Iff.rfl

noncomputable def sAdd (a b : List Nat) (k : KP) : Res := cond (Nat.ble (Nat.add (lenR a) (lenR b)) 4611686018427387903) (appK a b fun l => k (.s l)) none
theorem sAdd_eq (a b : List Nat) (k : KP) : sAdd a b k = kont (xstr .add a b) k := by
  simp only [sAdd, xstr, appK_eq, lenR_eq]
  by_cases h : a.length + b.length < 4611686018427387904
  · have : Nat.ble (Nat.add a.length b.length) 4611686018427387903 = true := Nat.ble_eq_true_of_le (by show a.length + b.length ≤ _; omega)
    rw [this, if_pos h]; rfl
  · have : Nat.ble (Nat.add a.length b.length) 4611686018427387903 = false := by
      rw [Bool.eq_false_iff]; intro hh
      have : a.length + b.length ≤ 4611686018427387903 := Nat.le_of_ble_eq_true hh
      omega
    rw [this, if_neg h]; rfl

/-! ### Operations of two operands -/

noncomputable def pI2 (gi : IntKind → Int → Int → Res) (gs : List Nat → List Nat → Res) (v w : AV) : Res :=
  match v with
  | .i kd a => (match w with
    | .i kd' b => cond (kEq kd kd') (gi kd a b) none
    | _ => none)
  | .s a => (match w with
    | .s b => gs a b
    | _ => none)
  | _ => none

noncomputable def bAdd (v w : AV) (k : KP) : Res := pI2 (fun kd a b => iAdd kd a b k) (fun a b => sAdd a b k) v w
noncomputable def bSub (v w : AV) (k : KP) : Res := pI2 (fun kd a b => iSub kd a b k) (fun _ _ => none) v w
noncomputable def bMul (v w : AV) (k : KP) : Res := pI2 (fun kd a b => iMul kd a b k) (fun _ _ => none) v w
noncomputable def bQuo (v w : AV) (k : KP) : Res := pI2 (fun kd a b => iQuo kd a b k) (fun _ _ => none) v w
noncomputable def bRem (v w : AV) (k : KP) : Res := pI2 (fun kd a b => iRem kd a b k) (fun _ _ => none) v w
noncomputable def bEql (v w : AV) (k : KP) : Res := pI2 (fun _ a b => bK (iEq a b) k) (fun a b => bK (natEqL a b) k) v w
noncomputable def bNeq (v w : AV) (k : KP) : Res := pI2 (fun _ a b => bK (!iEq a b) k) (fun a b => bK (!natEqL a b) k) v w
noncomputable def bLss (v w : AV) (k : KP) : Res := pI2 (fun _ a b => bK (iLt a b) k) (fun a b => bK (natLtL a b) k) v w
noncomputable def bLeq (v w : AV) (k : KP) : Res := pI2 (fun _ a b => bK (iLe a b) k) (fun a b => bK (natLtL a b || natEqL a b) k) v w
noncomputable def bGtr (v w : AV) (k : KP) : Res := pI2 (fun _ a b => bK (iLt b a) k) (fun a b => bK (!(natLtL a b || natEqL a b)) k) v w
noncomputable def bGeq (v w : AV) (k : KP) : Res := pI2 (fun _ a b => bK (iLe b a) k) (fun a b => bK (!natLtL a b) k) v w

noncomputable def pBin (op : BinOp) (v w : AV) (k : KP) : Res :=
  match op with
  | .add => bAdd v w k
  | .sub => bSub v w k
  | .mul => bMul v w k
  | .quo => bQuo v w k
  | .rem => bRem v w k
  | .eql => bEql v w k
  | .neq => bNeq v w k
  | .lss => bLss v w k
  | .leq => bLeq v w k
  | .gtr => bGtr v w k
  | .geq => bGeq v w k
  | op => pGen (xbin op v w) k

theorem pI2_eq {op : BinOp} {gi : IntKind → Int → Int → Res} {gs : List Nat → List Nat → Res} {k : KP} (h1 : op ≠ .shl ∧ op ≠ .shr) (hi : ∀ kd a b, gi kd a b = kont (xint op kd a b) k) (hs : ∀ a b, gs a b = kont (xstr op a b) k) (v w : AV) :
    pI2 gi gs v w = kont (xbin op v w) k := by
  cases v <;> try (cases w <;> rfl)
  case i kd a =>
    cases w <;> try rfl
    case i kd' b =>
      simp only [pI2, xbin, kEq_eq]
      obtain ⟨h1, h2⟩ := h1
      have e := hi kd a b
      by_cases hk : kd = kd'
      · subst hk
        cases op <;> first | exact absurd rfl h1 | exact absurd rfl h2 | (simp only [decide_true, cond_true, if_true]; exact e)
      · cases op <;> first | exact absurd rfl h1 | exact absurd rfl h2 | (simp only [hk, decide_false, cond_false, if_false]; rfl)
  case s a =>
    cases w <;> try rfl
    case s b => simp only [pI2, xbin, hs]

theorem pBin_eq (op : BinOp) (v w : AV) (k : KP) : pBin op v w k = kont (xbin op v w) k := by
  cases op <;> simp only [pBin, pGen_eq] <;> (refine pI2_eq (by simp) (fun kd a b => ?_) (fun a b => ?_) v w) <;>
    simp only [xint, xstr, kont, iAdd_eq, iSub_eq, iMul_eq, iQuo_eq, iRem_eq, bK_eq, iEq_eq, iLt_eq, iLe_eq, natEqL_eq, natLtL_eq, sAdd_eq]
  all_goals try rfl
  all_goals first
    | (split <;> rfl)
    | (congr 1; simp; done)
    | skip

end Hb
end

section
set_option linter.unusedVariables false
set_option linter.unusedSimpArgs false
set_option linter.constructorNameAsVariable false
set_option autoImplicit false
set_option linter.unusedSimpArgs false
set_option linter.unusedVariables false
set_option linter.constructorNameAsVariable false
namespace Hb
open Go

/-! ## Operations that change nothing -/

noncomputable def pPick (c a b : AV) (k : KP) : Res :=
  match c with
  | .b t => cond t (k a) (k b)
  | _ => none

noncomputable def pUn (op : UnOp) (v : AV) (k : KP) : Res :=
  match op with
  | .not => (match v with
    | .b t => bK (!t) k
    | _ => none)
  | .neg => (match v with
    | .i kd n => wrapK kd (0 - n) k
    | _ => none)
  | _ => none

noncomputable def pInt (kd : IntKind) (v : AV) (k : KP) : Res :=
  match v with
  | .i _ n => wrapK kd n k
  | _ => none

noncomputable def pLen (str : Bool) (v : AV) (k : KP) : Res :=
  match v with
  | .s l => cond str (frcN (lenR l) fun n => k (.i .i64 (.ofNat n))) none
  | .sl _ n _ => cond str none (k (.i .i64 (.ofNat n)))
  | .ns => cond str none (k (.i .i64 (.ofNat 0)))
  | .sz => cond str none (k (.i .i64 (.ofNat 0)))
  | .gr _ _ _ n _ => cond str none (k (.i .i64 (.ofNat n)))
  | _ => none

noncomputable def packK (g : Bool) (l : List AV) (k : KP) : Res :=
  cond g (k (.agg l)) (match l with
    | [x] => k x
    | _ => none)

theorem packK_eq (g : Bool) (l : List AV) (k : KP) : packK g l k = kont (packV g l) k := by
  cases g with
  | true => rfl
  | false => rcases l with _ | ⟨x, _ | ⟨y, l⟩⟩ <;> rfl

noncomputable def pFld (g : Bool) (off n : Nat) (v : AV) (k : KP) : Res :=
  match v with
  | .agg l => cond (Nat.ble (Nat.add off n) (lenR l)) (dropK l off fun d => takeK d n fun l => packK g l k) none
  | _ => none

noncomputable def pExt (v : AV) (n : Nat) (k : KP) : Res :=
  match v with
  | .tup l => dropK l n fun d => (match d with
    | x :: _ => k x
    | [] => none)
  | _ => none

theorem drop_head {α : Type} (l : List α) (n : Nat) : (l.drop n).head? = l[n]? := by simp

noncomputable def pIdxs (v w : AV) (k : KP) : Res :=
  match v with
  | .s l => (match w with
    | .i _ j => (match j with
      | .ofNat m => dropK l m fun d => (match d with
        | c :: _ => k (.i .u8 (.ofNat c))
        | [] => none)
      | _ => none)
    | _ => none)
  | _ => none

noncomputable def pIdxa (g : Bool) (kk len : Nat) (v w : AV) (k : KP) : Res :=
  match v with
  | .agg l => (match w with
    | .i _ j => (match j with
      | .ofNat m => cond (Nat.ble (Nat.succ m) len) (cond (Nat.ble (Nat.mul (Nat.succ m) kk) (lenR l)) (dropK l (Nat.mul m kk) fun d => takeK d kk fun l => packK g l k) none) none
      | _ => none)
    | _ => none)
  | _ => none

/-- Operands, evaluated. -/
abbrev evO (f : Nat → AV) (x : Option XO) : Option AV :=
  match x with
  | none => none
  | some x => some (x.ev f)
noncomputable abbrev evL (f : Nat → AV) (l : List XO) : List AV := List.rec (motive := fun _ => List AV) [] (fun x _ ih => x.ev f :: ih) l
noncomputable abbrev evP (f : Nat → AV) (l : List (Nat × Nat × XO)) : List (Nat × Nat × AV) := List.rec (motive := fun _ => List (Nat × Nat × AV)) [] (fun x _ ih => (x.1, x.2.1, x.2.2.ev f) :: ih) l

theorem evL_eq (f : Nat → AV) (l : List XO) : evL f l = l.map (XO.ev f) := by
  induction l with
  | nil => rfl
  | cons x l ih => rw [List.map_cons, ← ih]

/-- The bounds of a slice expression. -/
noncomputable def boundK (n : Nat) (x : Option AV) (d : Nat) (k : Nat → Res) : Res :=
  match x with
  | none => k d
  | some v => (match v with
    | .i _ j => (match j with
      | .ofNat m => cond (Nat.ble m n) (k m) none
      | _ => none)
    | _ => none)

noncomputable def boundsK (n : Nat) (lo hi : Option AV) (k : Nat → Nat → Res) : Res := boundK n hi n fun h => boundK h lo 0 fun l => k l h

def bnd (ρ : Nat → AV) (n : Nat) (x : Option XO) (d : Nat) : Option Nat :=
  match x with
  | none => some d
  | some x => (xidx (x.ev ρ)).bind fun j => if 0 ≤ j ∧ j ≤ (n : Int) then some j.toNat else none

theorem xbounds_bnd (ρ : Nat → AV) (n : Nat) (lo hi : Option XO) : xbounds ρ n lo hi = (bnd ρ n hi n).bind fun h => (bnd ρ h lo 0).map fun l => (l, h) := by
  cases lo <;> cases hi <;> rfl

theorem boundK_eq (ρ : Nat → AV) (n : Nat) (x : Option XO) (d : Nat) (k : Nat → Res) : boundK n (evO ρ x) d k =
    (match bnd ρ n x d with
    | some m => k m
    | none => none) := by
  cases x with
  | none => rfl
  | some x =>
    simp only [evO, boundK, bnd]
    cases x.ev ρ <;> try rfl
    rename_i kd j
    cases j with
    | negSucc m => simp [xidx]
    | ofNat m =>
      simp only [xidx, Option.bind_some]
      by_cases h : m ≤ n
      · have h1 : Nat.ble m n = true := Nat.ble_eq_true_of_le h
        have h2 : (0 : Int) ≤ Int.ofNat m ∧ Int.ofNat m ≤ (n : Int) := ⟨Int.natCast_nonneg m, by show (m : Int) ≤ n; omega⟩
        rw [h1, if_pos h2]; rfl
      · have h1 : Nat.ble m n = false := by rw [Bool.eq_false_iff]; intro hh; exact h (Nat.le_of_ble_eq_true hh)
        have h2 : ¬ ((0 : Int) ≤ Int.ofNat m ∧ Int.ofNat m ≤ (n : Int)) := by intro hh; have : (m : Int) ≤ n := hh.2; omega
        rw [h1, if_neg h2]; rfl

theorem boundsK_eq (ρ : Nat → AV) (n : Nat) (lo hi : Option XO) (k : Nat → Nat → Res) : boundsK n (evO ρ lo) (evO ρ hi) k =
    (match xbounds ρ n lo hi with
    | some (l, h) => k l h
    | none => none) := by
  simp only [boundsK, xbounds_bnd, boundK_eq]
  cases bnd ρ n hi n with
  | none => rfl
  | some h =>
    simp only [Option.bind_some]
    cases bnd ρ h lo 0 <;> rfl

noncomputable def pSsl (v : AV) (lo hi : Option AV) (k : KP) : Res :=
  match v with
  | .s l => frcN (lenR l) fun n => boundsK n lo hi fun p q => dropK l p fun d => cond (Nat.beq q n) (k (.s d)) (takeK d (Nat.sub q p) fun l => k (.s l))
  | _ => none

/-! ### What looks into the store -/

noncomputable def sAt (s : ES) (r st : Nat) (k : Blk → Res) : Res :=
  match s.at r st with
  | some b => k b
  | none => none

noncomputable def sLive (s : ES) (r st : Nat) (k : Res) : Res := sAt s r st fun b => cond b.virt none k

theorem sLive_eq (s : ES) (r st : Nat) (k : Res) : sLive s r st k = if s.st.1.live r st then k else none := by
  unfold sLive sAt Store.live
  rw [← ES.at_eq]
  cases s.at r st with
  | none => simp
  | some b =>
    by_cases hb : b.virt = true
    · simp [hb]
    · have hb : b.virt = false := by simpa using hb
      simp [hb]

noncomputable def pNil (s : ES) (v : AV) (k : KP) : Res :=
  match v with
  | .p r st kk i o => sLive s r st (k (.p r st kk i o))
  | .pe cs kk i o => k (.pe cs kk i o)
  | .fn (.func f) a b => k (.fn (.func f) a b)
  | .ifc t v => k (.ifc t v)
  | _ => none

noncomputable def pFadr (s : ES) (off : Nat) (v : AV) (k : KP) : Res :=
  match v with
  | .p r st kk i o => sLive s r st (frcN (Nat.add o off) fun o => k (.p r st kk i o))
  | .pe cs kk i o => frcN (Nat.add o off) fun o => k (.pe cs kk i o)
  | _ => none

/-- Cells of a row. -/
noncomputable def loadK (g : Bool) (n : Nat) (cs : List AV) (kk i o : Nat) (k : KP) : Res :=
  cond (Nat.ble (Nat.add o n) kk) (cond (Nat.ble (Nat.mul (Nat.succ i) kk) (lenR cs)) (dropK cs (Nat.add (Nat.mul i kk) o) fun d => takeK d n fun l => packK g l k) none) none

theorem ble_eq (a b : Nat) : Nat.ble a b = decide (a ≤ b) := by
  rw [Bool.eq_iff_iff, Nat.ble_eq, decide_eq_true_eq]

theorem loadK_eq (g : Bool) (n : Nat) (cs : List AV) (kk i o : Nat) (k : KP) : loadK g n cs kk i o k = kont ((loadN cs kk i o n).bind fun l => packV g l) k := by
  simp only [loadK, loadN, elemAt, ble_eq, lenR_eq, dropK_eq, takeK_eq, packK_eq]
  have e1 : Nat.add o n = o + n := rfl
  have e2 : Nat.mul (Nat.succ i) kk = (i + 1) * kk := rfl
  have e3 : Nat.add (Nat.mul i kk) o = i * kk + o := rfl
  rw [e1, e2, e3]
  by_cases h2 : (i + 1) * kk ≤ cs.length
  · have hk : (i + 1) * kk = i * kk + kk := by rw [Nat.add_mul]; simp
    by_cases h1 : o + n ≤ kk
    · have hl : o + n ≤ ((cs.drop (i * kk)).take kk).length := by simp; omega
      simp only [h1, h2, decide_true, cond_true, if_true, Option.bind_some, hl]
      congr 2
      rw [List.drop_take, List.take_take, List.drop_drop]
      congr 1
      omega
    · have hl : ¬ o + n ≤ ((cs.drop (i * kk)).take kk).length := by simp; omega
      simp only [h1, h2, hl, decide_false, cond_false, if_true, if_false, Option.bind_some, Option.bind_none, kont]
  · simp only [h2, decide_false, cond_false, if_false, Option.bind_none, kont]
    cases decide (o + n ≤ kk) <;> rfl

noncomputable def pLoad (s : ES) (g : Bool) (n : Nat) (v : AV) (k : KP) : Res :=
  match v with
  | .p r st kk i o => sAt s r st fun b => (match b with
    | .cells _ false _ _ cs => loadK g n cs kk i o k
    | _ => none)
  | .pe cs kk i o => loadK g n cs kk i o k
  | _ => none

noncomputable def pIadrS (s : ES) (kk : Nat) (x i : AV) (k : KP) : Res :=
  match i with
  | .i _ j => (match j with
    | .ofNat m => (match x with
      | .sl k' n cs => cond (Nat.beq k' kk) (cond (Nat.ble (Nat.succ m) n) (k (.pe cs kk m 0)) none) none
      | .gr r st i0 n k' => cond (Nat.beq k' kk) (cond (Nat.ble (Nat.succ m) n) (sLive s r st (frcN (Nat.add i0 m) fun i => k (.p r st kk i 0))) none) none
      | _ => none)
    | _ => none)
  | _ => none

noncomputable def pIadrA (s : ES) (kk len : Nat) (x i : AV) (k : KP) : Res :=
  match i with
  | .i _ j => (match j with
    | .ofNat m => cond (Nat.ble (Nat.succ m) len) (match x with
      | .p r st k' i0 o => sLive s r st (frcN (Nat.add o (Nat.mul m kk)) fun o => k (.p r st k' i0 o))
      | .pe cs k' i0 o => frcN (Nat.add o (Nat.mul m kk)) fun o => k (.pe cs k' i0 o)
      | _ => none) none
    | _ => none)
  | _ => none

noncomputable abbrev pIadr (s : ES) (kk : Nat) (arr : Option Nat) (x i : AV) (k : KP) : Res :=
  match arr with
  | none => pIadrS s kk x i k
  | some len => pIadrA s kk len x i k

noncomputable def eCells (s : ES) (r st : Nat) : Option (List AV) :=
  match s.at r st with
  | some (.cells _ false _ _ cs) => some cs
  | _ => none

theorem eCells_eq (s : ES) (r st : Nat) : eCells s r st = s.st.1.cells r st := by unfold eCells Store.cells; rw [ES.at_eq]; rfl

/-- The stores that hold the one block that an operation looks at. -/
noncomputable def one (s : ES) (v : AV) : Store :=
  match v with
  | .gr r st _ _ _ => (List.replicate r none) ++ [match s.at r st with | some b => some b | none => none]
  | _ => []

theorem one_at (s : ES) {r st i n k : Nat} : (one s (.gr r st i n k)).at r st = s.st.1.at r st := by
  simp only [one]
  rw [ES.at_eq]
  unfold Store.at
  cases h : s.st.1[r]? with
  | none => simp [h]
  | some ob =>
    cases ob with
    | none => simp [h]
    | some b =>
      by_cases hb : b.st = st
      · simp [h, hb]
      · simp [h, hb]

/-- The high bound is the zero, the greatest one too. -/
noncomputable def zeroB (lo hi : Option AV) (m : AV) (k : Res) : Res :=
  match lo, hi, m with
  | none, some (.i _ (.ofNat 0)), .i _ (.ofNat 0) => k
  | _, _, _ => none

noncomputable def pLsl (s : ES) (kk : Nat) (v : AV) (lo hi mx : Option AV) (k : KP) : Res :=
  match v with
  | .gr r st i n k' => cond (Nat.beq k' kk) (sLive s r st (match mx with
      | none => boundsK n lo hi fun p q => frcN (Nat.add i p) fun i => frcN (Nat.sub q p) fun n => k (.gr r st i n kk)
      | some m => zeroB lo hi m (k .sz))) none
  | .sl k' n cs => cond (Nat.beq k' kk) (match mx with
      | none => boundsK n lo hi fun p q => cond (Nat.beq q n) (frcLA ((cs.drop (p * kk)).take ((q - p) * kk)) fun l => frcN (q - p) fun n => k (.sl kk n l)) none
      | some m => zeroB lo hi m (k .sz)) none
  | .ns => (match mx with
      | none => boundsK 0 lo hi fun _ _ => k .ns
      | some m => zeroB lo hi m (k .sz))
  | _ => none

noncomputable def pB2s (s : ES) (v : AV) (k : KP) : Res := pGen (xconv (one s v) .b2s v) k

/-! ### Composite values -/

noncomputable def vCells (v : AV) (k : List AV → Res) : Res :=
  match v with
  | .u => none
  | .tup _ => none
  | .agg l => k l
  | v => k [v]

noncomputable def replK (z : List AV) (off : Nat) (cs : List AV) (k : List AV → Res) : Res :=
  takeK z off fun a => dropK z (Nat.add off (lenR cs)) fun b => appK cs b fun m => appK a m k

noncomputable def fillK (z : List AV) (ps : List (Nat × Nat × AV)) (k : List AV → Res) : Res :=
  List.rec (motive := fun _ => List AV → Res) (fun z => k z) (fun p _ ih z => vCells p.2.2 fun cs => cond (Nat.beq (lenR cs) p.2.1) (cond (Nat.ble (Nat.add p.1 p.2.1) (lenR z)) (replK z p.1 cs ih) none) none) ps z

theorem vCells_eq (v : AV) (k : List AV → Res) : vCells v k = (match v.cells with
    | some cs => k cs
    | none => none) := by cases v <;> rfl

theorem replK_eq (z : List AV) (off : Nat) (cs : List AV) (k : List AV → Res) : replK z off cs k = k (replaceAt z off cs) := by
  simp only [replK, takeK_eq, dropK_eq, appK_eq, lenR_eq, replaceAt]; rfl

theorem fillK_eq (f : Nat → AV) (k : List AV → Res) : ∀ (ps : List (Nat × Nat × XO)) (z : List AV), fillK z (evP f ps) k = (match fillA f z ps with
    | some cs => k cs
    | none => none)
  | [], z => rfl
  | (off, size, x) :: ps, z => by
    have : fillK z (evP f ((off, size, x) :: ps)) k = vCells (x.ev f) fun cs => cond (Nat.beq (lenR cs) size) (cond (Nat.ble (Nat.add off size) (lenR z)) (replK z off cs fun z => fillK z (evP f ps) k) none) none := rfl
    rw [this, vCells_eq]
    simp only [fillA]
    cases (x.ev f).cells with
    | none => rfl
    | some cs =>
      simp only [Option.bind_some, lenR_eq, beqN, ble_eq, replK_eq]
      have e : Nat.add off size = off + size := rfl
      rw [e]
      by_cases h1 : cs.length = size
      · by_cases h2 : off + size ≤ z.length
        · simp only [h1, h2, decide_true, cond_true, and_self, if_true]
          exact fillK_eq f k ps _
        · simp [h1, h2]
      · simp [h1]

noncomputable def pBuild (z : List AV) (ps : List (Nat × Nat × AV)) (k : KP) : Res := fillK z ps fun l => k (.agg l)

/-! ### All of them -/

noncomputable abbrev pConv (s : ES) (c : XConv) (v : AV) (k : KP) : Res :=
  match c with
  | .int kd => pInt kd v k
  | .same => (match v with
    | .s l => k (.s l)
    | _ => none)
  | .b2s => pB2s s v k
  | .s2b _ => none

/-- The least, the greatest. -/
noncomputable def xmm (mn : Bool) (as : List AV) : Option AV :=
  match as with
  | .i k a :: xs => cond mn (xfold (fun a b => if b < a then b else a) k a xs) (xfold (fun a b => if b > a then b else a) k a xs)
  | _ => none
noncomputable def pMM (mn : Bool) (as : List AV) (k : KP) : Res := pGen (xmm mn as) k

noncomputable abbrev pBi (b : XBi) (as : List AV) (f : Nat → AV) (xs : List XO) (k : KP) : Res :=
  match b with
  | .len str => (match as with
    | [v] => pLen str v k
    | _ => none)
  | .min => pMM true as k
  | .max => pMM false as k
  | b => pGen (xpure [] f (.bi b xs)) k

noncomputable abbrev pop (s : ES) (f : Nat → AV) (x : XOp) (k : KP) : Res :=
  match x with
  | .move x => k (x.ev f)
  | .pick c a b => pPick (c.ev f) (a.ev f) (b.ev f) k
  | .build z ps => pBuild z (evP f ps) k
  | .nilc x => pNil s (x.ev f) k
  | .bin op x y => pBin op (x.ev f) (y.ev f) k
  | .un op x => pUn op (x.ev f) k
  | .conv c x => pConv s c (x.ev f) k
  | .mki t x => k (.ifc t (x.ev f))
  | .mkf g a b => k (.fn g (evL f a) (evL f b))
  | .ssl x lo hi => pSsl (x.ev f) (evO f lo) (evO f hi) k
  | .lsl kk x lo hi mx => pLsl s kk (x.ev f) (evO f lo) (evO f hi) (evO f mx) k
  | .fadr off x => pFadr s off (x.ev f) k
  | .fld g off n x => pFld g off n (x.ev f) k
  | .iadr kk arr x i => pIadr s kk arr (x.ev f) (i.ev f) k
  | .idxs x i => pIdxs (x.ev f) (i.ev f) k
  | .idxa g kk len x i => pIdxa g kk len (x.ev f) (i.ev f) k
  | .ext x n => pExt (x.ev f) n k
  | .load g n x => pLoad s g n (x.ev f) k
  | .bi b as => pBi b (evL f as) f as k
  | x => pGen (xpure [] f x) k

theorem evP_nil (f : Nat → AV) : evP f [] = [] := rfl

theorem zeroB_eq (f : Nat → AV) (lo hi : Option XO) (m : XO) (k : KP) : zeroB (evO f lo) (evO f hi) (m.ev f) (k .sz) = kont (match lo, hi.map (XO.ev f), m.ev f with
        | none, some (.i _ 0), .i _ 0 => some AV.sz
        | _, _, _ => none) k := by
  rcases lo with _ | lo
  · rcases hi with _ | hi
    · rfl
    · simp only [evO, Option.map_some]
      cases hi.ev f <;> try rfl
      rename_i kd j
      rcases j with (_ | j) | j
      · cases m.ev f <;> try rfl
        rename_i kd' j'
        rcases j' with (_ | j') | j' <;> rfl
      · rfl
      · rfl
  · rfl

/-- What it comes to. -/
theorem pop_eq (s : ES) (f : Nat → AV) (x : XOp) (k : KP) : pop s f x k = kont (xpure s.st.1 f x) k := by
  have hc : ∀ {b : Bool} {A B : Res}, cond b A B = if b = true then A else B := by intro b A B; cases b <;> rfl
  cases x with
  | move x => rfl
  | pick c a b =>
    simp only [pop, xpure, pPick]
    cases c.ev f <;> try rfl
    rename_i t
    cases t <;> rfl
  | build z ps =>
    simp only [pop, xpure, pBuild, fillK_eq]
    cases fillA f z ps <;> rfl
  | nilc x =>
    simp only [pop, xpure, pNil]
    cases x.ev f <;> try rfl
    case p r st kk i o =>
      simp only [sLive_eq]
      cases s.st.1.live r st <;> rfl
    case fn g a b => cases g <;> rfl
  | bin op x y => simp only [pop, xpure, pBin_eq]
  | un op x =>
    simp only [pop, xpure, pUn]
    cases op <;> cases x.ev f <;> simp only [wrapK_eq, bK_eq] <;> rfl
  | conv c x =>
    cases c with
    | int kd =>
      simp only [pop, xpure, pConv, pInt, xconv]
      cases x.ev f <;> simp only [wrapK_eq] <;> rfl
    | same =>
      simp only [pop, xpure, pConv, xconv]
      cases x.ev f <;> rfl
    | b2s =>
      simp only [pop, xpure, pConv, pB2s, pGen_eq]
      cases hv : x.ev f <;> try (unfold xconv; rfl)
      case gr r st i n k' =>
        unfold xconv
        simp only [Store.cells, one_at]
    | s2b T => rfl
  | mki t x => rfl
  | mkf g a b => simp only [pop, xpure, evL_eq]; rfl
  | ssl x lo hi =>
    simp only [pop, xpure, pSsl]
    cases x.ev f <;> try rfl
    rename_i l
    simp only [frcN_eq, lenR_eq, boundsK_eq]
    cases hb : xbounds f l.length lo hi with
    | none => rfl
    | some p =>
      obtain ⟨a, h⟩ := p
      have hle : a ≤ h ∧ h ≤ l.length := by
        rw [xbounds_bnd] at hb
        simp only [Option.bind_eq_some_iff, Option.map_eq_some_iff, Prod.mk.injEq] at hb
        obtain ⟨h', h1, a', h2, rfl, rfl⟩ := hb
        have key : ∀ {n d r : Nat} {x : Option XO}, bnd f n x d = some r → d ≤ n → r ≤ n := by
          intro n d r x hx hd
          cases x with
          | none => simp only [bnd, Option.some.injEq] at hx; omega
          | some x =>
            simp only [bnd, Option.bind_eq_some_iff] at hx
            obtain ⟨j, _, hx⟩ := hx
            split at hx
            · cases hx; omega
            · cases hx
        exact ⟨key h2 (Nat.zero_le _), key h1 (Nat.le_refl _)⟩
      simp only [dropK_eq, takeK_eq, Option.map_some, kont, beqN]
      by_cases hq : h = l.length
      · simp [hq]
      · simp only [hq, decide_false, cond_false]
        rw [List.drop_take]
        rfl
  | lsl kk x lo hi mx =>
    have hz2 := fun m => zeroB_eq f lo hi m k
    have n0 : evO f (none : Option XO) = none := rfl
    have n1 : ∀ m, evO f (some m) = some (m.ev f) := fun _ => rfl
    simp only [pop, xpure, pLsl]
    cases hv : x.ev f <;> try (unfold xlsl; rfl)
    case sl k' n cs =>
      simp only [xlsl, beqN]
      by_cases hk : k' = kk
      · subst hk
        simp only [decide_true, cond_true, if_true]
        cases mx with
        | none =>
          simp only [n0, boundsK_eq]
          cases xbounds f n lo hi with
          | none => rfl
          | some p =>
            obtain ⟨p, q⟩ := p
            simp only [Option.bind_some, frcLA_eq, frcN_eq]
            by_cases hq : q = n <;> simp [hq, kont]
        | some m => simp only [n1]; exact hz2 m
      · simp only [hk, decide_false, cond_false, if_false]; rfl
    case ns =>
      simp only [xlsl]
      cases mx with
      | none =>
        simp only [n0, boundsK_eq]
        cases xbounds f 0 lo hi <;> rfl
      | some m => simp only [n1]; exact hz2 m
    case gr r st i n k' =>
      simp only [xlsl, beqN, sLive_eq]
      by_cases hk : k' = kk
      · subst hk
        simp only [decide_true, cond_true, true_and]
        cases hl : s.st.1.live r st with
        | false => simp [kont]
        | true =>
          simp only [if_true]
          cases mx with
          | none =>
            simp only [n0, boundsK_eq]
            cases xbounds f n lo hi with
            | none => rfl
            | some p =>
              obtain ⟨p, q⟩ := p
              simp only [frcN_eq, Option.map_some, kont]
              rfl
          | some m => simp only [n1]; exact hz2 m
      · simp only [hk, decide_false, cond_false, false_and, if_false]; rfl
  | fadr off x =>
    simp only [pop, xpure, pFadr]
    cases x.ev f <;> try rfl
    case p r st kk i o =>
      simp only [sLive_eq, frcN_eq]
      cases s.st.1.live r st <;> rfl
    case pe cs kk i o => simp only [frcN_eq]; rfl
  | fld g off n x =>
    simp only [pop, xpure, pFld]
    cases x.ev f <;> try rfl
    rename_i l
    simp only [ble_eq, lenR_eq, dropK_eq, takeK_eq, packK_eq, hc]
    have e : Nat.add off n = off + n := rfl
    rw [e]
    by_cases h : off + n ≤ l.length <;> simp [h, kont]
  | iadr kk arr x i =>
    have neg : ∀ (m : Nat) {P : Prop}, ¬ (0 ≤ Int.negSucc m ∧ P) := by intro m P h; exact absurd h.1 (by simp)
    simp only [pop, xpure, pIadr]
    cases arr with
    | none =>
      simp only [pIadrS]
      cases i.ev f <;> try rfl
      rename_i kd j
      simp only [xidx, Option.bind_some]
      cases j with
      | negSucc m =>
        cases x.ev f <;> try rfl
        all_goals (simp [kont]; done)
      | ofNat m =>
        have e : ∀ n : Nat, (Nat.succ m ≤ n) ↔ (0 ≤ Int.ofNat m ∧ Int.ofNat m < (n : Int)) := by
          intro n
          constructor
          · intro h; exact ⟨Int.natCast_nonneg m, by show (m : Int) < n; omega⟩
          · intro h; have : (m : Int) < n := h.2; omega
        cases x.ev f <;> try rfl
        case sl k' n cs =>
          simp only [beqN, ble_eq, hc, e n]
          by_cases h1 : k' = kk
          · by_cases h2 : (0 ≤ Int.ofNat m ∧ Int.ofNat m < (n : Int))
            · simp only [h1, h2, decide_true, if_true, and_self, kont]; rfl
            · simp only [h1, h2, decide_true, decide_false, if_true, if_false, and_false, kont, true_and]; rfl
          · simp [h1, kont]
        case gr r st i0 n k' =>
          simp only [beqN, ble_eq, hc, e n, sLive_eq, frcN_eq]
          by_cases h1 : k' = kk
          · by_cases h2 : (0 ≤ Int.ofNat m ∧ Int.ofNat m < (n : Int))
            · by_cases h3 : s.st.1.live r st = true
              · simp only [h1, h2, h3, decide_true, if_true, and_self, kont]; rfl
              · simp only [h1, h2, h3, decide_true, if_true, and_self, and_false, if_false, kont, Bool.false_eq_true]
            · have : ¬ (0 ≤ Int.ofNat m ∧ Int.ofNat m < (n : Int) ∧ s.st.1.live r st = true) := fun h => h2 ⟨h.1, h.2.1⟩
              simp only [h1, h2, this, decide_true, decide_false, if_true, if_false, and_false, kont, true_and]; rfl
          · simp [h1, kont]
    | some len =>
      simp only [pIadrA]
      cases i.ev f <;> try rfl
      rename_i kd j
      simp only [xidx, Option.bind_some]
      cases j with
      | negSucc m =>
        cases x.ev f <;> try rfl
        all_goals (simp [kont]; done)
      | ofNat m =>
        have e : ∀ n : Nat, (Nat.succ m ≤ n) ↔ (0 ≤ Int.ofNat m ∧ Int.ofNat m < (n : Int)) := by
          intro n
          constructor
          · intro h; exact ⟨Int.natCast_nonneg m, by show (m : Int) < n; omega⟩
          · intro h; have : (m : Int) < n := h.2; omega
        simp only [ble_eq, hc, e len]
        by_cases h2 : (0 ≤ Int.ofNat m ∧ Int.ofNat m < (len : Int))
        · cases x.ev f <;> try (simp [h2, kont]; done)
          case p r st k' i0 o =>
            simp only [sLive_eq, frcN_eq]
            by_cases h3 : s.st.1.live r st = true
            · simp only [h2, h3, decide_true, if_true, and_self, kont]; rfl
            · simp only [h2, h3, decide_true, if_true, and_self, and_false, if_false, kont, Bool.false_eq_true]
          case pe cs k' i0 o =>
            simp only [frcN_eq, h2, decide_true, if_true, and_self, kont]; rfl
        · cases x.ev f <;> try (simp [h2, kont]; done)
          case p r st k' i0 o =>
            have : ¬ (0 ≤ Int.ofNat m ∧ Int.ofNat m < (len : Int) ∧ s.st.1.live r st = true) := fun h => h2 ⟨h.1, h.2.1⟩
            simp only [h2, this, decide_false, if_false, kont, Bool.false_eq_true]
          case pe cs k' i0 o => simp only [h2, decide_false, if_false, kont, Bool.false_eq_true]
  | idxs x i =>
    simp only [pop, xpure, pIdxs]
    cases i.ev f <;> simp only [xidx, Option.bind_none, Option.bind_some] <;> try (cases x.ev f <;> rfl)
    rename_i kd j
    cases x.ev f <;> try rfl
    rename_i l
    cases j with
    | negSucc m => simp [kont]
    | ofNat m =>
      simp only [dropK_eq]
      have hm : (0 : Int) ≤ Int.ofNat m := Int.natCast_nonneg m
      simp only [hm, if_true]
      have e : (Int.ofNat m).toNat = m := rfl
      rw [e, ← drop_head l m]
      cases l.drop m <;> rfl
  | idxa g kk len x i =>
    simp only [pop, xpure, pIdxa]
    cases i.ev f <;> simp only [xidx, Option.bind_none, Option.bind_some] <;> try (cases x.ev f <;> rfl)
    rename_i kd j
    cases x.ev f <;> try rfl
    rename_i l
    cases j with
    | negSucc m => simp [kont]
    | ofNat m =>
      simp only [ble_eq, lenR_eq, dropK_eq, takeK_eq, packK_eq, hc]
      have e1 : Nat.mul (Nat.succ m) kk = ((Int.ofNat m).toNat + 1) * kk := rfl
      have e2 : Nat.mul m kk = (Int.ofNat m).toNat * kk := rfl
      have e : (Nat.succ m ≤ len) ↔ (0 ≤ Int.ofNat m ∧ Int.ofNat m < (len : Int)) := by
        constructor
        · intro h; exact ⟨Int.natCast_nonneg m, by show (m : Int) < len; omega⟩
        · intro h; have : (m : Int) < len := h.2; omega
      simp only [e1, e2, e]
      by_cases h1 : (0 ≤ Int.ofNat m ∧ Int.ofNat m < (len : Int))
      · by_cases h2 : ((Int.ofNat m).toNat + 1) * kk ≤ l.length
        · simp only [h1, h2, decide_true, if_true, and_self]
        · simp only [h2, decide_false, if_false, and_false, kont, Bool.false_eq_true]
          split <;> rfl
      · have : ¬ (0 ≤ Int.ofNat m ∧ Int.ofNat m < (len : Int) ∧ ((Int.ofNat m).toNat + 1) * kk ≤ l.length) := fun h => h1 ⟨h.1, h.2.1⟩
        simp only [h1, this, decide_false, if_false, kont, Bool.false_eq_true]
  | ext x n =>
    simp only [pop, xpure, pExt]
    cases x.ev f <;> try rfl
    rename_i l
    simp only [dropK_eq]
    rw [← drop_head l n]
    cases l.drop n <;> rfl
  | load g n x =>
    simp only [pop, xpure, pLoad]
    cases x.ev f <;> try rfl
    case p r st kk i o =>
      simp only [sAt]
      rw [← eCells_eq]
      unfold eCells
      cases s.at r st with
      | none => rfl
      | some b =>
        simp only
        cases b <;> try rfl
        rename_i st' virt T fz cs
        cases virt <;> simp only [loadK_eq] <;> rfl
    case pe cs kk i o => simp only [loadK_eq]
  | bi b as =>
    simp only [pop, pBi]
    cases b <;> try (simp only [pGen_eq]; rcases as with _ | ⟨x, _ | ⟨y, l⟩⟩ <;> rfl)
    case min =>
      simp only [pMM, pGen_eq, evL_eq]
      congr 1
      cases as with
      | nil => rfl
      | cons x xs => simp only [List.map_cons, xpure, xmm]; cases x.ev f <;> rfl
    case max =>
      simp only [pMM, pGen_eq, evL_eq]
      congr 1
      cases as with
      | nil => rfl
      | cons x xs => simp only [List.map_cons, xpure, xmm]; cases x.ev f <;> rfl
    rename_i str
    rcases as with _ | ⟨x, _ | ⟨y, l⟩⟩
    · rfl
    · simp only [evL, xpure, pLen]
      cases x.ev f <;> cases str <;> try rfl
      all_goals (simp only [frcN_eq, lenR_eq]; rfl)
    · rfl
  | _ => simp only [pop, pGen_eq]; rfl

end Hb
end

section
set_option linter.unusedVariables false
set_option linter.unusedSimpArgs false
set_option linter.constructorNameAsVariable false
set_option autoImplicit false
set_option linter.unusedSimpArgs false
set_option linter.unusedVariables false
set_option linter.constructorNameAsVariable false
namespace Hb
open Go

/-! ## The evaluator's steps -/

/-- A new block, its stamp given; its place and its stamp. -/
noncomputable def pPush (s : ES) (b : Nat → Blk) (k : Nat → Nat → ES → Res) : Res :=
  match s with
  | ⟨t, n, x⟩ => cond (Nat.ble n 999999999) (frcN (Nat.succ n) fun n' => frcN (Nat.succ x) fun x' => k n x ⟨TR.set ES.room t n' (some (b x)), n', x'⟩) none
noncomputable def pPut (s : ES) (r : Nat) (b : Option Blk) (k : ES → Res) : Res :=
  match s with
  | ⟨t, n, x⟩ => cond (Nat.ble r 999999999) (k ⟨TR.set ES.room t (Nat.succ r) b, n, x⟩) none
noncomputable def pPut1 (s : ES) (r : Nat) (b : Nat → Blk) (k : Nat → ES → Res) : Res :=
  match s with
  | ⟨t, n, x⟩ => cond (Nat.ble r 999999999) (frcN (Nat.succ x) fun x' => k x ⟨TR.set ES.room t (Nat.succ r) (some (b x)), n, x'⟩) none

theorem pPush_some {s : ES} {b : Nat → Blk} {k : Nat → Nat → ES → Res} {a : Ans} (h : pPush s b k = some a) : ∃ s', s'.st = (s.st.1 ++ [some (b s.st.2)], s.st.2 + 1) ∧ k s.st.1.length s.st.2 s' = some a := by
  obtain ⟨t, n, x⟩ := s
  simp only [pPush, frcN_eq] at h
  cases hc : Nat.ble n 999999999 with
  | false => rw [hc] at h; cases h
  | true =>
    rw [hc] at h
    have := Nat.le_of_ble_eq_true hc
    refine ⟨_, ES.push_st ⟨t, n, x⟩ (b x) (by show n < _; omega), ?_⟩
    rw [ES.len]
    exact h

theorem pPut_some {s : ES} {r : Nat} {b : Option Blk} {k : ES → Res} {a : Ans} (h : pPut s r b k = some a) : ∃ s', s'.st = (s.st.1.set r b, s.st.2) ∧ k s' = some a := by
  obtain ⟨t, n, x⟩ := s
  simp only [pPut] at h
  cases hc : Nat.ble r 999999999 with
  | false => rw [hc] at h; cases h
  | true =>
    rw [hc] at h
    have := Nat.le_of_ble_eq_true hc
    exact ⟨_, ES.put_st ⟨t, n, x⟩ r b (by omega), h⟩

theorem pPut1_some {s : ES} {r : Nat} {b : Nat → Blk} {k : Nat → ES → Res} {a : Ans} (h : pPut1 s r b k = some a) : ∃ s', s'.st = (s.st.1.set r (some (b s.st.2)), s.st.2 + 1) ∧ k s.st.2 s' = some a := by
  obtain ⟨t, n, x⟩ := s
  simp only [pPut1, frcN_eq] at h
  cases hc : Nat.ble r 999999999 with
  | false => rw [hc] at h; cases h
  | true =>
    rw [hc] at h
    have := Nat.le_of_ble_eq_true hc
    exact ⟨_, ES.put1_st ⟨t, n, x⟩ r (some (b x)) (by omega), h⟩

theorem cond_some {b : Bool} {A : Res} {a : Ans} (h : cond b A none = some a) : b = true ∧ A = some a := by
  cases b with
  | false => cases h
  | true => exact ⟨rfl, h⟩

theorem vCells_some {v : AV} {k : List AV → Res} {a : Ans} (h : vCells v k = some a) : ∃ cs, v.cells = some cs ∧ k cs = some a := by
  rw [vCells_eq] at h
  cases hv : v.cells with
  | none => rw [hv] at h; cases h
  | some cs => rw [hv] at h; exact ⟨cs, rfl, h⟩

theorem sAt_some {s : ES} {r st : Nat} {k : Blk → Res} {a : Ans} (h : sAt s r st k = some a) : ∃ b, s.st.1.at r st = some b ∧ k b = some a := by
  unfold sAt at h
  rw [← ES.at_eq]
  cases hb : s.at r st with
  | none => rw [hb] at h; cases h
  | some b => rw [hb] at h; exact ⟨b, rfl, h⟩

noncomputable def pRow (s : ES) (T : Nat) (cs : List AV) (k : KV) : Res := frcN (lenR cs) fun m => pPush s (fun x => .cells x false T 0 cs) fun r x s' => k (.p r x m 0 0) s'
noncomputable def pBox (s : ES) (T : Nat) (v : AV) (k : KV) : Res := vCells v fun cs => pRow s T cs k
noncomputable def pLit (s : ES) (T k0 n : Nat) (z : List AV) (ps : List (Nat × Nat × AV)) (k : KV) : Res :=
  fillK z ps fun cs => pPush s (fun x => .cells x false T 0 cs) fun r x s' => k (.gr r x 0 n k0) s'

noncomputable def pStore (s : ES) (n : Nat) (p v : AV) (k : KV) : Res :=
  match p with
  | .p r st k0 i o => sAt s r st fun b => (match b with
    | .cells st' false T fz old => vCells v fun cs =>
      cond (Nat.beq (lenR cs) n) (cond (Nat.ble (Nat.add o n) k0) (cond (Nat.ble (Nat.mul (Nat.succ i) k0) (lenR old)) (cond (Nat.ble fz (Nat.add (Nat.mul i k0) o))
        (replK old (Nat.add (Nat.mul i k0) o) cs fun new => pPut s r (some (.cells st' false T fz new)) fun s' => k (.tup []) s') none) none) none) none
    | _ => none)
  | _ => none

noncomputable def pMk (s : ES) (T k0 : Nat) (z : List AV) (l c : AV) (k : KV) : Res :=
  match l with
  | .i .i64 l => (match c with
    | .i .i64 c => if 0 ≤ l ∧ l ≤ c ∧ c ≤ 1048576 then frcLA ((List.range (c.toNat * k0)).map fun j => (z[j % z.length]?).getD .u) fun cs => frcN l.toNat fun l =>
        pPush s (fun x => .cells x false T 0 cs) fun r x s' => k (.gr r x 0 l k0) s' else none
    | _ => none)
  | _ => none

noncomputable def bytesK (l : List Nat) (k : List AV → Res) : Res :=
  List.rec (motive := fun _ => (List AV → Res) → Res) (fun k => k []) (fun (b : Nat) _ ih k => ih fun t => k (.i .u8 (.ofNat b) :: t)) l k
theorem bytesK_eq : ∀ (l : List Nat) (k : List AV → Res), bytesK l k = k (l.map fun (b : Nat) => .i .u8 b)
  | [], k => rfl
  | b :: l, k => by
    have : bytesK (b :: l) k = bytesK l fun t => k (.i .u8 (.ofNat b) :: t) := rfl
    rw [this, bytesK_eq l]; rfl

noncomputable def pS2b (s : ES) (T : Nat) (v : AV) (k : KV) : Res :=
  match v with
  | .s l => bytesK l fun cs => frcN (lenR l) fun n => pPush s (fun x => .cells x false T 0 cs) fun r x s' => k (.gr r x 0 n 1) s'
  | _ => none

/-- The cells that a slice's value has. -/
noncomputable def cellsK (s : ES) (k0 : Nat) (v : AV) (k : Nat → List AV → Res) : Res :=
  match v with
  | .sl k' n cs => cond (Nat.beq k' k0) (k n cs) none
  | .ns => k 0 []
  | .sz => k 0 []
  | .gr r st i n k' => cond (Nat.beq k' k0) (sAt s r st fun b => (match b with
      | .cells _ true _ _ _ => k 0 []
      | .cells _ false _ _ cs => cond (Nat.ble (Nat.add (Nat.mul i k0) (Nat.mul n k0)) (lenR cs)) (dropK cs (Nat.mul i k0) fun d => takeK d (Nat.mul n k0) fun l => k n l) none
      | _ => none)) none
  | _ => none

theorem cellsK_some {s : ES} {k0 : Nat} {v : AV} {k : Nat → List AV → Res} {a : Ans} (h : cellsK s k0 v k = some a) : ∃ n l, cellsOfSlice s.st.1 k0 v = some (n, l) ∧ k n l = some a := by
  unfold cellsK at h
  unfold cellsOfSlice
  cases v <;> try (cases h; done)
  case sl k' n cs =>
    obtain ⟨h1, h2⟩ := cond_some h
    exact ⟨n, cs, by rw [Nat.eq_of_beq_eq_true h1]; simp, h2⟩
  case ns => exact ⟨0, [], rfl, h⟩
  case sz => exact ⟨0, [], rfl, h⟩
  case gr r st i n k' =>
    obtain ⟨h1, h2⟩ := cond_some h
    have := Nat.eq_of_beq_eq_true h1
    subst this
    obtain ⟨b, hb, h3⟩ := sAt_some h2
    simp only [if_true, hb]
    cases b <;> try (cases h3; done)
    rename_i st' virt T fz cs
    cases virt with
    | true => exact ⟨0, [], rfl, h3⟩
    | false =>
      obtain ⟨h4, h5⟩ := cond_some h3
      have h4 : i * k' + n * k' ≤ cs.length := by
        have := Nat.le_of_ble_eq_true h4
        rw [lenR_eq] at this
        exact this
      simp only [dropK_eq, takeK_eq] at h5
      exact ⟨n, _, by simp only [h4, if_true]; rfl, h5⟩

noncomputable def pApp (s : ES) (T k0 : Nat) (x : AV) (m : Nat) (new : List AV) (k : KV) : Res :=
  cond (Nat.ble m 1048576) (match x with
  | .ns => pPush s (fun x => .cells x (Nat.beq m 0) T 0 new) fun r x s' => k (.gr r x 0 m k0) s'
  | .sz => pPush s (fun x => .cells x (Nat.beq m 0) T 0 new) fun r x s' => k (.gr r x 0 m k0) s'
  | .sl k' n cs => cond (Nat.beq k' k0) (cond (Nat.ble n 1048576) (cond (Nat.beq m 0) (k (.sl k' n cs) s) (appK cs new fun all => frcN (Nat.add n m) fun nm => pPush s (fun x => .cells x false T 0 all) fun r x s' => k (.gr r x 0 nm k0) s')) none) none
  | .gr r st i n k' => cond (Nat.beq k' k0) (cond (Nat.beq i 0) (cond (Nat.ble n 1048576) (sAt s r st fun b => (match b with
      | .cells _ true _ _ _ => cond (Nat.beq m 0) (k (.gr r st i n k') s) (pPut1 s r (fun x => .cells x false T 0 new) fun x s' => k (.gr r x 0 m k0) s')
      | .cells _ false T' fz old => cond (Nat.beq m 0) (k (.gr r st i n k') s)
          (cond (Nat.beq T' T) (cond (Nat.ble (Nat.mul n k0) (lenR old)) (cond (Nat.ble fz (Nat.mul n k0)) (takeK old (Nat.mul n k0) fun o => appK o new fun all => frcN (Nat.add n m) fun nm =>
            pPut1 s r (fun x => .cells x false T fz all) fun x s' => k (.gr r x 0 nm k0) s') none) none) none)
      | _ => none)) none) none) none
  | _ => none) none

theorem pApp_some {s : ES} {T k0 : Nat} {x : AV} {m : Nat} {new : List AV} {k : KV} {a : Ans} (h : pApp s T k0 x m new k = some a) :
    ∃ v σ', xappend s.st.1 T k0 x m new s.st.2 = some (v, σ') ∧ ∃ s', s'.st = σ' ∧ k v s' = some a := by
  unfold pApp at h
  unfold xappend
  obtain ⟨hm, h⟩ := cond_some h
  have hm : ¬ 1048576 < m := by have := Nat.le_of_ble_eq_true hm; omega
  rw [if_neg hm]
  cases x <;> try (cases h; done)
  case ns =>
    obtain ⟨s', h1, h2⟩ := pPush_some h
    simp only [beqN] at h1
    exact ⟨_, _, rfl, s', h1, h2⟩
  case sz =>
    obtain ⟨s', h1, h2⟩ := pPush_some h
    simp only [beqN] at h1
    exact ⟨_, _, rfl, s', h1, h2⟩
  case sl k' n cs _ =>
    simp only at h ⊢
    obtain ⟨h1, h⟩ := cond_some h
    obtain ⟨h2, h⟩ := cond_some h
    have h1 := Nat.eq_of_beq_eq_true h1
    have h2 := Nat.le_of_ble_eq_true h2
    rw [if_pos ⟨h1, h2⟩]
    cases h0 : Nat.beq m 0 with
    | true =>
      rw [h0] at h
      rw [if_pos (Nat.eq_of_beq_eq_true h0)]
      exact ⟨_, _, rfl, s, rfl, h⟩
    | false =>
      rw [h0] at h
      rw [if_neg (fun e => by rw [e] at h0; cases h0)]
      simp only [cond_false, appK_eq, frcN_eq] at h
      obtain ⟨s', q1, q2⟩ := pPush_some h
      exact ⟨_, _, rfl, s', q1, q2⟩
  case gr r st i n k' _ =>
    simp only at h ⊢
    obtain ⟨h1, h⟩ := cond_some h
    obtain ⟨h2, h⟩ := cond_some h
    obtain ⟨h3, h⟩ := cond_some h
    have h1 := Nat.eq_of_beq_eq_true h1
    have h2 := Nat.eq_of_beq_eq_true h2
    have h3 := Nat.le_of_ble_eq_true h3
    rw [if_pos ⟨h1, h2, h3⟩]
    obtain ⟨b, hb, h⟩ := sAt_some h
    rw [hb]
    cases b <;> try (cases h; done)
    rename_i st' virt T' fz old
    cases virt with
    | true =>
      simp only at h ⊢
      cases h0 : Nat.beq m 0 with
      | true =>
        rw [h0] at h
        rw [if_pos (Nat.eq_of_beq_eq_true h0)]
        exact ⟨_, _, rfl, s, rfl, h⟩
      | false =>
        rw [h0] at h
        rw [if_neg (fun e => by rw [e] at h0; cases h0)]
        simp only [cond_false] at h
        obtain ⟨s', q1, q2⟩ := pPut1_some h
        exact ⟨_, _, rfl, s', q1, q2⟩
    | false =>
      simp only at h ⊢
      cases h0 : Nat.beq m 0 with
      | true =>
        rw [h0] at h
        rw [if_pos (Nat.eq_of_beq_eq_true h0)]
        exact ⟨_, _, rfl, s, rfl, h⟩
      | false =>
        rw [h0] at h
        rw [if_neg (fun e => by rw [e] at h0; cases h0)]
        simp only [cond_false] at h
        obtain ⟨g1, h⟩ := cond_some h
        obtain ⟨g2, h⟩ := cond_some h
        obtain ⟨g3, h⟩ := cond_some h
        have g1 := Nat.eq_of_beq_eq_true g1
        have g2 : n * k0 ≤ old.length := by have := Nat.le_of_ble_eq_true g2; rw [lenR_eq] at this; exact this
        have g3 : fz ≤ n * k0 := Nat.le_of_ble_eq_true g3
        rw [if_pos ⟨g1, g2, g3⟩]
        simp only [takeK_eq, appK_eq, frcN_eq] at h
        obtain ⟨s', q1, q2⟩ := pPut1_some h
        exact ⟨_, _, rfl, s', q1, q2⟩

noncomputable def pAppend (s : ES) (T k0 : Nat) (x y : AV) (k : KV) : Res := cellsK s k0 y fun m new => pApp s T k0 x m new k

/-- Behind a call. -/
noncomputable def callK (r : Res) (k : KV) : Res :=
  match r with
  | some (.ret v s) => k v s
  | _ => none

/-- Behind a piece of code. -/
noncomputable def exK (r : Res) (k : XExit → (Nat → AV) → ES → Res) : Res :=
  match r with
  | some (.ex e f s) => k e f s
  | _ => none

def putAllB (ρ : Nat → AV) (ps : List Nat) (as : List AV) : Nat → AV :=
  match ps with
  | [] => ρ
  | p :: ps => match as with
    | [] => ρ
    | a :: as => putAllB (updB ρ p a) ps as

theorem putAllB_eq : ∀ (ps : List Nat) (as : List AV) (ρ : Nat → AV), putAllB ρ ps as = putAll ρ ps as
  | [], as, ρ => by cases as <;> rfl
  | p :: ps, [], ρ => rfl
  | p :: ps, a :: as, ρ => by simp only [putAllB, putAll]; rw [updB_eq, putAllB_eq ps as]

noncomputable def eRoundEnd (r st : Nat) (e : XExit) (s : ES) (k : KV) : Res :=
  sAt s r st fun b => (match b with
  | .loop _ _ _ N ρl ps xa xb dr ds => (match e with
    | .normal => pPut s r (some (.loop st .ready none N ρl ps xa xb dr ds)) fun s' => k (.b true) s'
    | e => pPut s r (some (.loop st .done (some e) N ρl ps xa xb dr ds)) fun s' => k (.b false) s')
  | _ => none)

noncomputable def eRoundMid (Rb : Nat → XC → (Nat → AV) → ES → Res) (r st N0 : Nat) (xb0 : XC) (e : XExit) (f : Nat → AV) (s : ES) (k : KV) : Res :=
  match e with
  | .normal => sAt s r st fun b => (match b with
    | .loop _ .ready pe N ρl ps xa xb dr ds => pPut s r (some (.loop st .busy pe N ρl ps xa xb dr ds)) fun s' => exK (Rb N0 xb0 f s') fun e _ s => eRoundEnd r st e s k
    | _ => none)
  | _ => none

noncomputable def eRound (Rb : Nat → XC → (Nat → AV) → ES → Res) (r st : Nat) (args : List AV) (s : ES) (k : KV) : Res :=
  sAt s r st fun b => (match b with
  | .loop _ .ready _ N ρl ps xa xb _ _ => cond (Nat.beq (lenR args) (lenR ps)) (exK (Rb N xa (putAllB ρl ps args) s) fun e f s => eRoundMid Rb r st N xb e f s k) none
  | _ => none)

noncomputable def eCallV (Rg : FuncId → List AV → ES → Res) (Rb : Nat → XC → (Nat → AV) → ES → Res) (g : AV) (args : List AV) (s : ES) (k : KV) : Res :=
  match g with
  | .fn (.func g) first cap => callK (Rg g (first ++ args ++ cap) s) k
  | .fy r st => eRound Rb r st args s k
  | _ => none

noncomputable def pRng (s : ES) (v : AV) (k : KV) : Res :=
  match v with
  | .s l => pPush s (fun x => .iter x l 0) fun r x s' => k (.it r x) s'
  | _ => none

noncomputable def pNext (s : ES) (v : AV) (k : KV) : Res :=
  match v with
  | .it r st => sAt s r st fun b => (match b with
    | .iter st' l pos => if pos < l.length then
        frcN (pos + (Utf8.decode (bs l) pos).2) fun pos' => frcN (Utf8.decode (bs l) pos).1 fun c =>
        pPut s r (some (.iter st' l pos')) fun s' => k (.tup [.b true, .i .i64 (.ofNat pos), .i .i32 (.ofNat c)]) s' else k (.tup [.b false]) s
    | _ => none)
  | _ => none

noncomputable abbrev eCall (R : Rec) (g : XO) (f : Nat → AV) (args : List AV) (s : ES) (k : KV) : Res :=
  match g with
  | .f n => callK (R.f n args s) k
  | g => eCallV R.g R.b (g.ev f) args s k

noncomputable abbrev estep (R : Rec) (x : XOp) (f : Nat → AV) (s : ES) (k : KV) : Res :=
  match x with
  | .alloc T z => pRow s T z k
  | .box T _ x => pBox s T (x.ev f) k
  | .lit T k0 n z ps => pLit s T k0 n z (evP f ps) k
  | .store n a x => pStore s n (a.ev f) (x.ev f) k
  | .mksl T k0 z l c => pMk s T k0 z (l.ev f) (c.ev f) k
  | .conv (.s2b T) x => pS2b s T (x.ev f) k
  | .bi (.append T k0 z) [x, y] => pAppend s T k0 (x.ev f) (y.ev f) k
  | .call g args => eCall R g f (evL f args) s k
  | .rng x => pRng s (x.ev f) k
  | .next x => pNext s (x.ev f) k
  | x => pop s f x fun v => k v s

/-- What is asked of the answers. -/
structure RecOk (P : Prg) (R : Rec) : Prop where
  f : ∀ g args s v s', R.f g args s = some (.ret v s') → (ACall P g args s.st fun v' σ' => v' = v ∧ σ' = s'.st) ∨ (AExt P g args s.st fun v' σ' => v' = v ∧ σ' = s'.st)
  g : ∀ g args s v s', R.g g args s = some (.ret v s') → (ACall P g args s.st fun v' σ' => v' = v ∧ σ' = s'.st) ∨ (AExt P g args s.st fun v' σ' => v' = v ∧ σ' = s'.st)
  h : ∀ g args s v s', R.h g args s = some (.ret v s') → ACall P g args s.st fun v' σ' => v' = v ∧ σ' = s'.st
  b : ∀ N x f s e f' s', XOk P N x → R.b N x f s = some (.ex e f' s') → ∀ rd, AX P N rd x.un ⟨f, []⟩ s.st fun e' ρ' σ' => e' = e ∧ ρ'.d = [] ∧ (∀ t, f' t = ρ'.f t ∨ f' t = .u) ∧ σ' = s'.st

section
variable {P : Prg} {R : Rec}

theorem callK_some {r : Res} {k : KV} {a : Ans} (h : callK r k = some a) : ∃ v s, r = some (.ret v s) ∧ k v s = some a := by
  unfold callK at h
  split at h
  · exact ⟨_, _, rfl, h⟩
  · cases h

theorem exK_some {r : Res} {k : XExit → (Nat → AV) → ES → Res} {a : Ans} (h : exK r k = some a) : ∃ e f s, r = some (.ex e f s) ∧ k e f s = some a := by
  unfold exK at h
  split at h
  · exact ⟨_, _, _, rfl, h⟩
  · cases h

theorem eRound_some (hR : RecOk P R) {r st : Nat} {args : List AV} {s : ES} {k : KV} {a : Ans} (h : eRound R.b r st args s k = some a) : ARound P r st args s.st fun v σ' => ∃ s', s'.st = σ' ∧ k v s' = some a := by
  unfold eRound at h
  unfold ARound
  obtain ⟨b, hb, h⟩ := sAt_some h
  rw [hb]
  split at h
  · rename_i st' pe N ρl ps xa xb dr ds
    obtain ⟨hlen, h⟩ := cond_some h
    have hlen := Nat.eq_of_beq_eq_true hlen
    rw [lenR_eq, lenR_eq] at hlen
    refine ⟨hlen, fun o1 o2 => ?_⟩
    obtain ⟨e1, f1, s1, hb1, h⟩ := exK_some h
    rw [putAllB_eq] at hb1
    refine (hR.b _ _ _ _ _ _ _ o1 hb1 _).mono fun e ρ1 σ1 ⟨q1, q2, q3, q4⟩ => ?_
    subst q1 q4
    unfold eRoundMid at h
    unfold RoundMid
    split at h
    · obtain ⟨b2, hb2, h⟩ := sAt_some h
      rw [hb2]
      split at h
      · obtain ⟨s2, hs2, h⟩ := pPut_some h
        simp only
        rw [← hs2]
        obtain ⟨e3, f3, s3, hb3, h⟩ := exK_some h
        have hax := hR.b _ _ _ _ _ _ _ o2 hb3 (some (r, st))
        refine (AX.weak hax (by simp only [q2]) q3).mono fun e ρ3 σ3 ⟨w1, w2, w3, w4⟩ => ?_
        subst w1 w4
        unfold eRoundEnd at h
        unfold RoundEnd
        obtain ⟨b4, hb4, h⟩ := sAt_some h
        rw [hb4]
        split at h
        · cases e with
          | normal => exact pPut_some h
          | exit id => exact pPut_some h
          | ret => exact pPut_some h
        · cases h
      · cases h
    · cases h
  · cases h

theorem estep_some (hR : RecOk P R) {x : XOp} {f : Nat → AV} {s : ES} {k : KV} {a : Ans} (h : estep R x f s k = some a) : XStep P x f s.st fun v σ' => ∃ s', s'.st = σ' ∧ k v s' = some a := by
  have gen : pop s f x (fun v => k v s) = some a → (match xpure s.st.1 f x with | some v => ∃ s', s'.st = s.st ∧ k v s' = some a | none => False) := by
    intro h
    rw [pop_eq] at h
    obtain ⟨v, h1, h2⟩ := kont_some h
    rw [h1]
    exact ⟨s, rfl, h2⟩
  cases x <;> try exact gen h
  case alloc T z =>
    simp only [estep, pRow, frcN_eq, lenR_eq] at h
    exact pPush_some h
  case box T k0 x =>
    simp only [estep, pBox] at h
    obtain ⟨cs, h1, h⟩ := vCells_some h
    simp only [pRow, frcN_eq, lenR_eq] at h
    simp only [XStep, h1]
    exact pPush_some h
  case lit T k0 n z ps =>
    simp only [estep, pLit, fillK_eq] at h
    simp only [XStep]
    cases hc : fillA f z ps with
    | none => rw [hc] at h; cases h
    | some cs => rw [hc] at h; exact pPush_some h
  case store n p x =>
    simp only [estep, pStore] at h
    simp only [XStep]
    unfold storeAt
    cases hp : p.ev f <;> rw [hp] at h <;> try (cases h; done)
    rename_i r st k0 i o
    simp only at h
    obtain ⟨b, hb, h⟩ := sAt_some h
    split at h
    · rename_i st' T fz old
      obtain ⟨cs, h1, h⟩ := vCells_some h
      obtain ⟨g1, h⟩ := cond_some h
      obtain ⟨g2, h⟩ := cond_some h
      obtain ⟨g3, h⟩ := cond_some h
      obtain ⟨g4, h⟩ := cond_some h
      have g1 := Nat.eq_of_beq_eq_true g1
      have g2 := Nat.le_of_ble_eq_true g2
      have g3 := Nat.le_of_ble_eq_true g3
      have g4 := Nat.le_of_ble_eq_true g4
      rw [lenR_eq] at g1 g3
      simp only [h1, hb]
      have g2' : o + n ≤ k0 := g2
      have g3' : (i + 1) * k0 ≤ old.length := g3
      have g4' : fz ≤ i * k0 + o := g4
      rw [if_pos ⟨g1, g2', g3', g4'⟩]
      rw [replK_eq] at h
      exact pPut_some h
    · cases h
  case mksl T k0 z l c =>
    simp only [estep, pMk] at h
    simp only [XStep]
    split at h
    · rename_i l0 e1
      split at h
      · rename_i c0 e2
        rw [e1, e2]
        split at h
        · rename_i hcond
          simp only [frcLA_eq, frcN_eq] at h
          exact ⟨hcond.1, hcond.2.1, hcond.2.2, pPush_some h⟩
        · cases h
      · cases h
    · cases h
  case conv kk x =>
    cases kk <;> try exact gen h
    case s2b T =>
      simp only [estep, pS2b] at h
      simp only [XStep]
      split at h
      · rename_i l e1
        rw [e1]
        simp only [bytesK_eq, frcN_eq, lenR_eq] at h
        exact pPush_some h
      · cases h
  case bi b as =>
    cases b <;> try exact gen h
    case append T k0 z =>
      rcases as with _ | ⟨x, _ | ⟨y, _ | ⟨w, as⟩⟩⟩ <;> try exact gen h
      simp only [estep, pAppend] at h
      simp only [XStep]
      obtain ⟨m, new, h1, h⟩ := cellsK_some h
      rw [h1]
      obtain ⟨v, σ', h2, h3⟩ := pApp_some h
      simp only [h2]
      exact h3
  case rng x =>
    simp only [estep, pRng] at h
    simp only [XStep]
    split at h
    · rename_i l e1
      rw [e1]
      exact pPush_some h
    · cases h
  case next x =>
    simp only [estep, pNext] at h
    simp only [XStep]
    split at h
    · rename_i r st e1
      rw [e1]
      simp only
      obtain ⟨b, hb, h⟩ := sAt_some h
      rw [hb]
      split at h
      · rename_i st' l pos
        simp only
        split at h
        · rename_i hp
          rw [if_pos hp]
          simp only [frcN_eq] at h
          exact pPut_some h
        · rename_i hp; rw [if_neg hp]; exact ⟨s, rfl, h⟩
      · cases h
    · cases h
  case call g args =>
    simp only [estep, evL_eq] at h
    have gen : eCallV R.g R.b (g.ev f) (args.map (XO.ev f)) s k = some a → XStep P (.call g args) f s.st fun v σ' => ∃ s', s'.st = σ' ∧ k v s' = some a := by
      intro h
      unfold eCallV at h
      simp only [XStep]
      split at h
      · rename_i g0 first cap e1
        rw [e1]
        obtain ⟨v, s', h1, h2⟩ := callK_some h
        rcases hR.g _ _ _ _ _ h1 with hh | hh
        · exact .inl (hh.mono fun v' σ' ⟨q1, q2⟩ => ⟨s', q2.symm, by rw [q1]; exact h2⟩)
        · exact .inr (hh.mono fun v' σ' ⟨q1, q2⟩ => ⟨s', q2.symm, by rw [q1]; exact h2⟩)
      · rename_i r st e1
        rw [e1]
        exact eRound_some hR h
      · cases h
    cases g with
    | f n =>
      simp only [eCall] at h
      obtain ⟨v, s', h1, h2⟩ := callK_some h
      simp only [XStep, XO.ev, List.nil_append, List.append_nil]
      rcases hR.f _ _ _ _ _ h1 with hh | hh
      · exact .inl (hh.mono fun v' σ' ⟨q1, q2⟩ => ⟨s', q2.symm, by rw [q1]; exact h2⟩)
      · exact .inr (hh.mono fun v' σ' ⟨q1, q2⟩ => ⟨s', q2.symm, by rw [q1]; exact h2⟩)
    | t n => exact gen h
    | c v => exact gen h

end
end Hb
end
