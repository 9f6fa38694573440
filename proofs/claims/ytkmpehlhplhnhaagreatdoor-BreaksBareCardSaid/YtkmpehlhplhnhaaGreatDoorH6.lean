/- A layer for programs of small data: values, stores, code, and an evaluator of code that the kernel runs; part 6. -/
import Derived.Test.YtkmpehlhplhnhaaGreatDoorH5

section
set_option linter.unusedVariables false
set_option linter.unusedSimpArgs false
set_option linter.constructorNameAsVariable false
set_option autoImplicit false
set_option linter.unusedSimpArgs false
set_option linter.unusedVariables false
namespace Hb
open Go
section
variable {P : Prg} {N : Nat} {ops : Array Oper} {xs : List XOper} {V : List VE} {L : Array Bool} {E : List EE} {s0 : Nat} {ρ : Env} {c : Cx} {a : Act}
theorem put_d {ρ : Env} {d : Option Nat} {v : AV} : (ρ.put d v).d = ρ.d := by cases d <;> rfl
theorem RepA.of_f {c : Cx} {ρ ρ' : Env} {a : Act} (h : RepA c N ρ a) (hd : ρ'.d = ρ.d) (hf : ∀ t, ρ'.f t = ρ.f t ∨ ρ'.f t = .u) : RepA c N ρ' a := by
  refine ⟨⟨h.t.1, fun t => ?_⟩, by rw [hd]; exact h.d⟩
  rcases hf t with h1 | h1
  · rw [h1]; exact h.t.2 t
  · rw [h1]; simp only [RepV]
theorem EAt.ready {e : EE} (h : EAt P N ops V L a c s0 e) : e.k ∈ readyV ops V := by
  obtain ⟨o, h1, _, h3⟩ := h.op
  exact readyV_spec.2 ⟨h.nv, o, h1, h3⟩
theorem Inv.virt {i : Nat} {x : XOper} {o : Oper} {v : AV} (h : Inv P N ops V L E s0 ρ c a) (hi : i ∈ readyV ops V) (ho : ops[i]? = some o) (hx : compOper P N ops o = some x) (hact : x.op.isAct = false)
    (hok : insOk V x (closAt ops V i) false = true) (hE : ∀ e ∈ E, x.dst ≠ some e.d ∧ e.d ∉ x.temps) (hv : oneVal x ρ c.st.1 = some v) : Inv P N ops (⟨i, x, closAt ops V i, false⟩ :: V) L E s0 (ρ.put x.dst v) c a := by
  obtain ⟨hni, o', ho', haf⟩ := readyV_spec.1 hi
  rw [ho] at ho'; cases ho'
  have hm : closAt ops V i = clos V (afterOf o) := by simp [closAt, ho]
  obtain ⟨s1, s2, s3⟩ := insOk_spec hok
  have hie : ∀ e ∈ E, e.k ≠ i := by
    intro e he hk
    obtain ⟨o1, h1, h2, _⟩ := (h.e.one e he).op
    rw [hk, ho] at h1; cases h1
    rw [hx] at h2; cases h2
    rw [lateX_act (h.e.one e he).lx] at hact
    cases hact
  have hnl : ¬ Lst L i := fun hl => by
    rcases h.l.inV i hl with h1 | ⟨e, h1, h2⟩
    · rw [h1] at hni; cases hni
    · exact hie e h1 h2
  refine ⟨.cons h.wf ho hx hni haf hm hok fun _ => hact, ⟨h.l.size, fun k hk => ?_, h.l.closed, fun e he ha => ?_⟩, fun e he hne => ?_, ?_, h.sim, ⟨fun e he => ?_, h.e.dis⟩⟩
  · rcases h.l.inV k hk with h1 | h1
    · left; rw [hasV_cons, h1]; simp
    · exact .inr h1
  · rcases List.mem_cons.1 he with rfl | he
    · cases ha
    · exact h.l.act e he ha
  · rcases List.mem_cons.1 he with rfl | he
    · rw [Again_iff hact]
      refine ⟨v, ?_, fun d hd => ?_⟩
      · rw [← hv]
        refine oneVal_congr fun t ht => ?_
        rw [put_f, if_neg]
        exact fun hd => s3 rfl t hd ht
      · rw [put_f, if_pos hd]
    · have hea : e.act = false := by
        cases hq : e.act with
        | false => rfl
        | true => exact absurd (h.l.act e he hq) hne
      obtain ⟨_, _, _, _, hee⟩ := h.wf.get e he
      have hea := hee hea
      have := h.again e he hne
      rw [Again_iff hea] at this ⊢
      obtain ⟨u, h1, h2⟩ := this
      refine ⟨u, ?_, fun d hd => ?_⟩
      · rw [← h1]
        refine oneVal_congr fun t ht => ?_
        rw [put_f, if_neg]
        intro hd
        obtain ⟨_, hq⟩ := s2 t hd e he
        cases (hq ht).1
      · rw [put_f, if_neg]
        · exact h2 d hd
        · intro hd'
          exact (s2 d hd' e he).1 hd
  · refine RepA.of_f h.rep (by simp only [maskX, put_d]) fun t => ?_
    by_cases hex : ∃ e ∈ E, e.d = t
    · exact .inr (maskX_e hex)
    · rw [maskX_n hex, maskX_n hex]
      by_cases hd : x.dst = some t
      · exact .inr (maskE_u (e := ⟨i, x, closAt ops V i, false⟩) (by simp) hnl hd)
      · left
        unfold maskE
        simp only [List.any_cons, put_f, hd, if_false]
        have : (x.dst == some t) = false := by simpa using hd
        simp only [this, Bool.and_false, Bool.false_or]
  · have k := h.e.one e he
    obtain ⟨o1, h1, h2, h3⟩ := k.op
    refine ⟨?_, k.ls, ⟨o1, h1, h2, fun q hq => by rw [hasV_cons, h3 q hq]; simp⟩, fun v hv => ?_, k.tmp, k.heap, k.own, k.n0, k.s0, k.lx⟩
    · rw [hasV_cons, k.nv]
      have := hie e he
      simp only [Bool.or_false, beq_eq_false_iff_ne, ne_eq]
      exact fun h => this h.symm
    · rcases List.mem_cons.1 hv with rfl | hv
      · exact hE e he
      · exact k.free v hv
theorem EAt.step {e : EE} {c' : Cx} {L' : Array Bool} {dst : Option Nat} {u : Value} (k : EAt P N ops V L a c s0 e) (he : Ext c c') (hd : dst ≠ some e.d) (hL : ∀ k, Lst L k → Lst L' k) : EAt P N ops V L' (a.put dst u) c' s0 e := by
  obtain ⟨arr, h1, h2⟩ := k.heap
  have hlt : e.b < c.w.heap.size := (Array.getElem?_eq_some_iff.1 h1).1
  refine ⟨k.nv, hL _ k.ls, k.op, k.free, ?_, ⟨arr, by rw [he.keep e.b hlt k.own]; exact h1, h2⟩, fun ho => k.own (he.own e.b hlt ho), fun hc => (he.new0 _ hc).elim k.n0 (fun h => Nat.lt_irrefl _ (Nat.lt_of_lt_of_le hlt h)), k.s0, k.lx⟩
  cases dst with
  | none => exact k.tmp
  | some t =>
    simp only [Act.put]
    rw [← k.tmp]
    simp only [Array.getD_eq_getD_getElem?]
    rw [Array.getElem?_setIfInBounds_ne (fun h => hd (by rw [h]))]
theorem Inv.late {l : Option Nat} {Q : Exit → Act → World → Prop} {K' : Act → World → Prop} {e : VE} (h : Inv P N ops V L E s0 ρ c a) (he : e ∈ V) (hr : e.i ∈ Region.ready .any ops L)
    (hk : ∀ (c' : Cx) (a' : Act), Inv P N ops V (L.setIfInBounds e.i true) E s0 ρ c' a' → Ext c c' → c'.st = c.st → K' a' c'.w) : wpOpIn (Fw l) 0 P ops Q e.i K' a c.w := by
  obtain ⟨hg, o, ho, haf⟩ := ready_spec.1 hr
  obtain ⟨o', ho', hx, _, _⟩ := h.wf.get e he
  rw [ho] at ho'; cases ho'
  have hlt : e.i < L.size := by rw [h.l.size]; exact (Array.getElem?_eq_some_iff.1 ho).1
  have hne : ¬ Lst L e.i := (not_lst hlt).1 hg
  have hlook := WfV.looks h.wf h.l h.wf (fun e he => he) e he (fun o' ho' => by rw [ho] at ho'; cases ho'; exact haf)
  have hag := h.again e he hne
  have hone : XOne P e.x (maskX E V L ρ) c.st fun v σ' => σ' = c.st ∧ ∀ d, e.x.dst = some d → v = ρ.f d := by
    unfold Again at hag
    rw [XOne_congr (ρ' := ρ)]
    · exact hag
    · intro t ht
      refine maskX_f (fun e' he' hne' hd => hlook e' he' hne' t hd ht) fun e' he' hd => ?_
      subst hd
      exact ((h.e.one e' he').free e he).2 ht
  refine one_sound h.sim h.rep hx ho hone ?_
  rintro a' w' ⟨c', v, rfl, k1, k2, k3, ⟨k4, k5⟩, u, rfl⟩
  have hLL : ∀ k, Lst L k → Lst (L.setIfInBounds e.i true) k := fun k hk => (lst_set hlt).2 (.inr hk)
  refine hk c' _ ⟨h.wf, ⟨by simpa using h.l.size, fun k hl => ?_, fun k o' hl hk' j hj => ?_, fun e' he' hae => (lst_set hlt).2 (.inr (h.l.act e' he' hae))⟩, fun e' he' hnl => ?_, ?_, k1, ⟨fun e' he' => ?_, h.e.dis⟩⟩ k2 k4
  · rcases (lst_set hlt).1 hl with rfl | hl
    · exact .inl (hasV_of he)
    · exact h.l.inV k hl
  · rcases (lst_set hlt).1 hl with rfl | hl
    · rw [ho] at hk'; cases hk'
      exact (lst_set hlt).2 (.inr (haf j hj))
    · exact (lst_set hlt).2 (.inr (h.l.closed k o' hl hk' j hj))
  · rw [k4]
    exact h.again e' he' fun hl => hnl ((lst_set hlt).2 (.inr hl))
  · refine RepA.of_f k3 (by simp only [maskX, put_d]) fun t => .inl ?_
    rw [put_f]
    by_cases hd : e.x.dst = some t
    · rw [if_pos hd, k5 t hd]
      refine maskX_f (fun e' he' hnl hd' => ?_) fun e' he' hd' => ?_
      · have := h.wf.distinct e he e' he' t hd hd'
        subst this
        exact hnl ((lst_set hlt).2 (.inl rfl))
      · subst hd'
        exact ((h.e.one e' he').free e he).1 hd
    · rw [if_neg hd]
      by_cases hexE : ∃ e ∈ E, e.d = t
      · rw [maskX_e hexE, maskX_e hexE]
      · rw [maskX_n hexE, maskX_n hexE]
        by_cases hex : ∃ e' ∈ V, ¬ Lst L e'.i ∧ e'.x.dst = some t
        · obtain ⟨e', e1, e2, e3⟩ := hex
          rw [maskE_u e1 e2 e3, maskE_u e1 _ e3]
          intro hl
          rcases (lst_set hlt).1 hl with hl | hl
          · have := h.wf.index e' e1 e he hl
            subst this
            exact hd e3
          · exact e2 hl
        · rw [maskE_f fun e' e1 e2 e3 => hex ⟨e', e1, e2, e3⟩, maskE_f]
          intro e' e1 e2 e3
          exact hex ⟨e', e1, fun hl => e2 ((lst_set hlt).2 (.inr hl)), e3⟩
  · exact (h.e.one e' he').step k2 (fun hd => ((h.e.one e' he').free e he).1 hd) hLL
theorem Inv.after {i : Nat} {x : XOper} {o : Oper} {v : AV} {c' : Cx} {a' : Act} {E' : List EE} (h : Inv P N ops V L E s0 ρ c a) (hni : hasV V i = false) (hlt : i < L.size)
    (ho : ops[i]? = some o) (hx : compOper P N ops o = some x) (hok : insOk V x (closAt ops V i) true = true) (hdV : ∀ k ∈ afterOf o, hasV V k = true) (haf : ∀ k ∈ afterOf o, Lst L k)
    (hag : AgainL P (againOf V (closAt ops V i)) (ρ.put x.dst v) c'.st) (hrep : RepA c' N ((maskX E V L ρ).put x.dst v) a') (hsim : Sim P c')
    (hE : EOk P N ops (⟨i, x, closAt ops V i, true⟩ :: V) (L.setIfInBounds i true) a' c' s0 E') (hEi : ∀ e ∈ E, e.k = i ∨ e ∈ E') (hEE : ∀ e ∈ E', e ∈ E) (hEd : ∀ e ∈ E, e ∈ E' ∨ x.dst = some e.d) :
    Inv P N ops (⟨i, x, closAt ops V i, true⟩ :: V) (L.setIfInBounds i true) E' s0 (ρ.put x.dst v) c' a' := by
  have hm : closAt ops V i = clos V (afterOf o) := by simp [closAt, ho]
  obtain ⟨s1, s2, s3⟩ := insOk_spec hok
  have hml : ∀ k, (closAt ops V i).testBit k = true → Lst L k := fun k hb => by
    rw [hm] at hb; exact clos_listed h.wf h.l hdV haf hb
  have hwf : WfV P N ops (⟨i, x, closAt ops V i, true⟩ :: V) := .cons h.wf ho hx hni hdV hm hok (fun h => by cases h)
  refine ⟨hwf, ⟨by simpa using h.l.size, fun k hl => ?_, fun k o' hl hk' j hj => ?_, fun e' he' hae => ?_⟩, fun e' he' hnl => ?_, ?_, hsim, hE⟩
  · rcases (lst_set hlt).1 hl with rfl | hl
    · left; rw [hasV_cons]; simp
    · rcases h.l.inV k hl with h1 | ⟨e, h1, h2⟩
      · left; rw [hasV_cons, h1]; simp
      · rcases hEi e h1 with h3 | h3
        · left; rw [hasV_cons]; simp [← h2, h3]
        · exact .inr ⟨e, h3, h2⟩
  · rcases (lst_set hlt).1 hl with rfl | hl
    · rw [ho] at hk'; cases hk'
      exact (lst_set hlt).2 (.inr (haf j hj))
    · exact (lst_set hlt).2 (.inr (h.l.closed k o' hl hk' j hj))
  · rcases List.mem_cons.1 he' with rfl | he'
    · exact (lst_set hlt).2 (.inl rfl)
    · exact (lst_set hlt).2 (.inr (h.l.act e' he' hae))
  · rcases List.mem_cons.1 he' with rfl | he'
    · exact absurd ((lst_set hlt).2 (.inl rfl)) hnl
    · have hne : ¬ Lst L e'.i := fun hl => hnl ((lst_set hlt).2 (.inr hl))
      by_cases hrd : e'.x.op.reads = true
      · refine AgainL_mem hag ?_
        simp only [againOf, List.mem_map, List.mem_filter, Bool.and_eq_true, Bool.not_eq_true']
        refine ⟨e', ⟨he', hrd, ?_⟩, rfl⟩
        cases hb : (closAt ops V i).testBit e'.i with
        | false => rfl
        | true => exact absurd (hml _ hb) hne
      · have hea : e'.act = false := by
          cases hq : e'.act with
          | false => rfl
          | true => exact absurd (h.l.act e' he' hq) hne
        obtain ⟨_, _, _, _, hee⟩ := h.wf.get e' he'
        have hea := hee hea
        have := h.again e' he' hne
        rw [Again_iff hea] at this ⊢
        obtain ⟨u, h1, h2⟩ := this
        refine ⟨u, ?_, fun d hd => ?_⟩
        · rw [← h1, oneVal_stable (σ := c'.st.1) (σ' := c.st.1) hea (by simpa using hrd)]
          refine oneVal_congr fun t ht => ?_
          rw [put_f, if_neg]
          intro hd
          obtain ⟨_, hq⟩ := s2 t hd e' he'
          exact hne (hml _ (hq ht).2)
        · rw [put_f, if_neg]
          · exact h2 d hd
          · intro hd'
            exact (s2 d hd' e' he').1 hd
  · refine RepA.of_f hrep (by simp only [maskX, put_d]) fun t => ?_
    rw [put_f]
    by_cases hd : x.dst = some t
    · left
      rw [if_pos hd, maskX_f, put_f, if_pos hd]
      · intro e' he' hnl hd'
        rcases List.mem_cons.1 he' with rfl | he'
        · exact hnl ((lst_set hlt).2 (.inl rfl))
        · exact (s2 t hd e' he').1 hd'
      · intro e' he' hd'
        subst hd'
        exact ((hE.one e' he').free ⟨i, x, closAt ops V i, true⟩ (by simp)).1 hd
    · rw [if_neg hd]
      by_cases hexE : ∃ e ∈ E, e.d = t
      · right
        obtain ⟨e, h1, h2⟩ := hexE
        rcases hEd e h1 with h3 | h3
        · exact maskX_e ⟨e, h3, h2⟩
        · rw [h2] at h3; exact absurd h3 hd
      · left
        rw [maskX_n hexE, maskX_n (fun ⟨e, h1, h2⟩ => hexE ⟨e, hEE e h1, h2⟩)]
        by_cases hex : ∃ e' ∈ V, ¬ Lst L e'.i ∧ e'.x.dst = some t
        · obtain ⟨e', e1, e2, e3⟩ := hex
          rw [maskE_u e1 e2 e3, maskE_u (List.mem_cons_of_mem _ e1) _ e3]
          intro hl
          rcases (lst_set hlt).1 hl with hl | hl
          · rw [← hl, hasV_of e1] at hni; cases hni
          · exact e2 hl
        · rw [maskE_f fun e' e1 e2 e3 => hex ⟨e', e1, e2, e3⟩, maskE_f, put_f, if_neg hd]
          intro e' e1 e2 e3
          rcases List.mem_cons.1 e1 with rfl | e1
          · exact hd e3
          · exact hex ⟨e', e1, fun hl => e2 ((lst_set hlt).2 (.inr hl)), e3⟩
theorem Inv.acts {l : Option Nat} {Q : Exit → Act → World → Prop} {K' : Act → World → Prop} {i : Nat} {x : XOper} {o : Oper} {R : Env → St → Prop} (h : Inv P N ops V L E s0 ρ c a) (hr : i ∈ Region.ready .any ops L) (hi : i ∈ readyV ops V)
    (ho : ops[i]? = some o) (hx : compOper P N ops o = some x) (hok : insOk V x (closAt ops V i) true = true) (hE : ∀ e ∈ E, x.dst ≠ some e.d ∧ e.d ∉ x.temps)
    (hone : XOne P x ρ c.st fun v σ' => AgainL P (againOf V (closAt ops V i)) (ρ.put x.dst v) σ' ∧ R (ρ.put x.dst v) σ')
    (hk : ∀ (c' : Cx) (a' : Act) (ρ' : Env), Inv P N ops (⟨i, x, closAt ops V i, true⟩ :: V) (L.setIfInBounds i true) E s0 ρ' c' a' → Ext c c' → R ρ' c'.st → K' a' c'.w) : wpOpIn (Fw l) 0 P ops Q i K' a c.w := by
  obtain ⟨hg, o', ho', haf⟩ := ready_spec.1 hr
  rw [ho] at ho'; cases ho'
  obtain ⟨hni, o', ho', hdV⟩ := readyV_spec.1 hi
  rw [ho] at ho'; cases ho'
  have hlt : i < L.size := by rw [h.l.size]; exact (Array.getElem?_eq_some_iff.1 ho).1
  have hm : closAt ops V i = clos V (afterOf o) := by simp [closAt, ho]
  obtain ⟨s1, s2, s3⟩ := insOk_spec hok
  have hml : ∀ k, (closAt ops V i).testBit k = true → Lst L k := fun k hb => by
    rw [hm] at hb; exact clos_listed h.wf h.l hdV haf hb
  have hne : ∀ e ∈ E, e.k ≠ i := fun e he hk => by
    have := (h.e.one e he).ls
    rw [hk] at this
    exact (not_lst hlt).1 hg this
  have hone' : XOne P x (maskX E V L ρ) c.st fun v σ' => AgainL P (againOf V (closAt ops V i)) (ρ.put x.dst v) σ' ∧ R (ρ.put x.dst v) σ' := by
    rw [XOne_congr (ρ' := ρ)]
    · exact hone
    · intro t ht
      refine maskX_f (fun e' he' hne' hd => hne' (hml e'.i (s1 e' he' t hd ht))) fun e' he' hd => ?_
      subst hd
      exact (hE e' he').2 ht
  refine one_sound h.sim h.rep hx ho hone' ?_
  rintro a' w' ⟨c', v, rfl, k1, k2, k3, ⟨k4, k5⟩, u, rfl⟩
  refine hk c' _ (ρ.put x.dst v) (h.after hni hlt ho hx hok hdV haf k4 k3 k1 ⟨fun e he => ?_, h.e.dis⟩ (fun e he => .inr he) (fun e he => he) (fun e he => .inl he)) k2 k5
  have k := (h.e.one e he).step (u := u) k2 (hE e he).1 (fun k hk => (lst_set hlt).2 (.inr hk))
  obtain ⟨o1, h1, h2, h3⟩ := k.op
  refine ⟨?_, k.ls, ⟨o1, h1, h2, fun q hq => by rw [hasV_cons, h3 q hq]; simp⟩, fun v hv => ?_, k.tmp, k.heap, k.own, k.n0, k.s0, k.lx⟩
  · rw [hasV_cons, k.nv]
    have := hne e he
    simp only [Bool.or_false, beq_eq_false_iff_ne, ne_eq]
    exact fun h => this h.symm
  · rcases List.mem_cons.1 hv with rfl | hv
    · exact hE e he
    · exact k.free v hv
theorem Inv.adopt {e : EE} {o : Oper} {R : Env → St → Prop} {c0 : Cx} (h : Inv P N ops V L E s0 ρ c a) (he : e ∈ E) (ho : ops[e.k]? = some o)
    (hok : insOk V ⟨some e.d, e.x, none⟩ (closAt ops V e.k) true = true) (h0 : Ext c0 c) (hs0 : s0 = c0.w.heap.size)
    (hone : XOne P ⟨some e.d, e.x, none⟩ ρ c.st fun v σ' => AgainL P (againOf V (closAt ops V e.k)) (ρ.put (some e.d) v) σ' ∧ R (ρ.put (some e.d) v) σ') :
    ∃ (c' : Cx) (ρ' : Env), c'.w = c.w ∧ Ext c0 c' ∧ R ρ' c'.st ∧ Inv P N ops (⟨e.k, ⟨some e.d, e.x, none⟩, closAt ops V e.k, true⟩ :: V) L (E.filter fun e' => decide (e'.k ≠ e.k)) s0 ρ' c' a := by
  have ke := h.e.one e he
  obtain ⟨o', ho', hx, hdV⟩ := ke.op
  rw [ho] at ho'; cases ho'
  obtain ⟨arr, ha1, ha2⟩ := ke.heap
  have hbl : e.b < c.w.heap.size := (Array.getElem?_eq_some_iff.1 ha1).1
  have hlt : e.k < L.size := by rw [h.l.size]; exact (Array.getElem?_eq_some_iff.1 ho).1
  have hd : e.d < N := by
    unfold compOper at hx
    split at hx
    · rename_i hd
      have hdst : o.dst = some e.d := by
        split at hx
        · simp only [Option.some.injEq, XOper.mk.injEq] at hx
          exact hx.1
        · simp only [Option.map_eq_some_iff, XOper.mk.injEq] at hx
          obtain ⟨_, _, hx⟩ := hx
          exact hx.1
      rw [hdst] at hd
      simpa using hd
    · cases hx
  obtain ⟨blk, hblk⟩ : ∃ blk : Blk, blk = .cells c.nx false e.T 0 e.z := ⟨_, rfl⟩
  obtain ⟨c', hc'⟩ : ∃ c' : Cx, c' = ⟨c.w, c.σ ++ [some blk], upd c.loc c.σ.length (e.b, 0), c.nx + 1, c.n0⟩ := ⟨_, rfl⟩
  have hι : ∀ {r : Nat}, r < c.σ.length → c'.loc r = c.loc r := fun hr => by rw [hc']; exact upd_ne _ _ (by omega)
  have hιn : c'.loc c.σ.length = (e.b, 0) := by rw [hc']; simp
  have hw' : c'.w = c.w := by rw [hc']
  have hσ : ∀ {r : Nat} {x : Blk}, c'.σ[r]? = some (some x) → (r < c.σ.length ∧ c.σ[r]? = some (some x)) ∨ (r = c.σ.length ∧ x = blk) := fun h => by
    rw [hc'] at h; exact push_get h
  have hlive : ∀ r blk', c'.σ[r]? = some (some blk') → blk'.st < c.nx → r < c.σ.length ∧ c.σ[r]? = some (some blk') := by
    intro r blk' h1 h2
    rcases hσ h1 with h3 | ⟨_, rfl⟩
    · exact h3
    · rw [hblk] at h2; simp [Blk.st] at h2
  have hown : ∀ b, c'.own b → c.own b ∨ b = e.b := by
    rintro b ⟨r, x, h1, h2, h3⟩
    rcases hσ h1 with ⟨h4, h5⟩ | ⟨rfl, _⟩
    · exact .inl ⟨r, x, h5, h2, by rw [← h3]; exact (congrArg Prod.fst (hι h4)).symm⟩
    · exact .inr (by rw [← h3]; exact congrArg Prod.fst hιn)
  have e0 : Ext0 c c' := by
    refine ⟨fun b hb => by rw [hw'], fun r blk' h1 h2 => ?_, by rw [hc']; simp, fun b arr T fz h1 => ⟨arr, fz, by rw [hw']; exact h1, rfl⟩, by rw [hc']; exact fun _ h => h⟩
    obtain ⟨h3, h4⟩ := hlive r blk' h1 h2
    exact ⟨blk', h4, rfl, rfl, fun _ => hι h3⟩
  have ext : Ext c0 c' := by
    refine ⟨fun b h1 h2 => by rw [hw']; exact h0.keep b h1 h2, fun b h1 h2 => ?_, by rw [hw']; exact h0.size, fun r blk' h1 h2 => ?_, Nat.le_trans h0.nx e0.nx, fun b arr T fz h1 => by rw [hw']; exact h0.sz b arr T fz h1,
      by rw [hw']; exact h0.os, by rw [hw']; exact h0.tape, by rw [hw']; exact h0.output, fun b hb => e0.n0 b (h0.n0 b hb), fun b hb => h0.new0 b (by rw [hc'] at hb; exact hb), fun b hb => by rw [hw']; exact h0.keep0 b hb⟩
    · rcases hown b h2 with h3 | h3
      · exact h0.own b h1 h3
      · have := ke.s0; omega
    · obtain ⟨h3, h4⟩ := hlive r blk' h1 (Nat.lt_of_lt_of_le h2 h0.nx)
      obtain ⟨b0, g1, g2, g3, g4⟩ := h0.live r blk' h4 h2
      exact ⟨b0, g1, g2, g3, fun hv => (hι h3).trans (g4 hv)⟩
  obtain ⟨r1, r2⟩ := ha2.1 c h.sim
  have r1 := RepL.mono0 e0 _ _ r1
  have hheap : c'.w.heap[e.b]? = some (.cells arr e.T (0, 0)) := by rw [hw']; exact ha1
  have hsim : Sim P c' := by
    refine h.sim.gen0 e0 (fun b hb => .inl (by rw [hc'] at hb; exact hb)) (fun r b h1 h2 => h.sim.lt h1 h2) (fun b hb => by rw [hw']; exact h.sim.n0 b (by rw [hc'] at hb; exact hb)) fun r b' h1 => ?_
    rcases hσ h1 with ⟨h2, h3⟩ | ⟨rfl, rfl⟩
    · exact .inl ⟨h3, hι h2, fun _ => by rw [hw']⟩
    · refine .inr ⟨?_, by rw [hblk, hc']; simp [Blk.st], fun _ => ⟨by rw [hιn, hc']; exact ke.n0, fun r2 b2 hne h4 hv2 => ?_⟩⟩
      · rw [hblk]
        simp only [BlkRep]
        rw [hιn]
        refine ⟨fun h => (by cases h), fun _ => ⟨arr, (0, 0), hheap, fzOk_zero _ _, ?_, repAt_heap0 hheap r1 r2⟩⟩
        rw [r1.length, Array.length_toList]; exact Nat.le_of_eq (Nat.zero_add _)
      · rcases hσ h4 with ⟨h5, h6⟩ | ⟨h5, _⟩
        · rw [hι h5, hιn]
          exact fun hh => ke.own ⟨r2, b2, h6, hv2, hh⟩
        · exact absurd h5 hne
  have hp : RepV c' (lateA c.σ.length c.nx e.z e.sl) (lateU e.b e.sl) := by
    cases hsl : e.sl with
    | none =>
      simp only [lateA, lateU, RepV]
      refine ⟨⟨_, rfl⟩, by rw [hc']; simp, fun blk hb hv => ?_⟩
      rw [hιn]; simp
    | some nk =>
      obtain ⟨n, k⟩ := nk
      obtain ⟨hz1, hz2⟩ := ha2.2 n k hsl
      have hsz : arr.size = n * k := by rw [← Array.length_toList, ← r1.length]; exact hz1
      simp only [lateA, lateU, RepV]
      refine ⟨⟨_, _, rfl⟩, by rw [hc']; simp, fun b' hb => ⟨fun hv => ?_, fun hv => ?_⟩⟩
      · exfalso
        obtain ⟨hb, _⟩ := Store.at_some hb
        rcases hσ hb with ⟨h1, _⟩ | ⟨_, rfl⟩
        · exact Nat.lt_irrefl _ h1
        · rw [hblk] at hv; cases hv
      · rw [hιn]
        exact ⟨0, n, arr, e.T, (0, 0), rfl, Nat.le_refl _, hheap, fun _ => ⟨by simp, by rw [hsz]; simp⟩⟩
  have hst : c'.st = (c.σ ++ [some (.cells c.nx false e.T 0 e.z)], c.nx + 1) := by rw [hc', hblk]; rfl
  simp only [XOne] at hone
  have hone := lateX_step ke.lx hone
  change AgainL P _ _ (c.σ ++ [some (.cells c.nx false e.T 0 e.z)], c.nx + 1) ∧ R _ (c.σ ++ [some (.cells c.nx false e.T 0 e.z)], c.nx + 1) at hone
  obtain ⟨hag, hR⟩ := hone
  have hput : a.put (some e.d) (lateU e.b e.sl) = a := by
    simp only [Act.put]
    have hsz : e.d < a.tmps.size := by rw [h.rep.t.1]; exact hd
    have ht := ke.tmp
    rw [Array.getD_eq_getD_getElem?, Array.getElem?_eq_getElem hsz] at ht
    simp only [Option.getD_some] at ht
    have : a.tmps.setIfInBounds e.d (lateU e.b e.sl) = a.tmps := by
      rw [← ht]
      apply Array.ext_getElem?
      intro j
      rw [Array.getElem?_setIfInBounds]
      split
      · rename_i hj
        subst hj
        simp [hsz]
      · rfl
    rw [this]
  have hrep := ((h.rep.mono0 e0).put (d := some e.d) hp (fun t ht => by cases ht; exact hd))
  rw [hput] at hrep
  have hL : L.setIfInBounds e.k true = L := by
    apply Array.ext_getElem?
    intro j
    rw [Array.getElem?_setIfInBounds]
    split
    · rename_i hj
      subst hj
      have := ke.ls
      unfold Lst at this
      rw [Array.getD_eq_getD_getElem?, Array.getElem?_eq_getElem hlt] at this
      simp only [Option.getD_some] at this
      simp [hlt, this]
    · rfl
  have hafL : ∀ k ∈ afterOf o, Lst L k := h.l.closed e.k o ke.ls ho
  have key := h.after (c' := c') (a' := a) (E' := E.filter fun e' => decide (e'.k ≠ e.k)) (v := lateA c.σ.length c.nx e.z e.sl) ke.nv hlt ho hx hok hdV hafL (by rw [hst]; exact hag) hrep hsim
    ⟨fun e' he' => ?_, fun e1 h1 e2 h2 => h.e.dis e1 (List.mem_filter.1 h1).1 e2 (List.mem_filter.1 h2).1⟩ (fun e' he' => ?_) (fun e' he' => (List.mem_filter.1 he').1) (fun e' he' => ?_)
  · rw [hL] at key
    exact ⟨c', _, hw', ext, by rw [hst]; exact hR, key⟩
  · obtain ⟨h1, h2⟩ := List.mem_filter.1 he'
    simp only [decide_eq_true_eq] at h2
    have k := h.e.one e' h1
    obtain ⟨o1, q1, q2, q3⟩ := k.op
    refine ⟨?_, by rw [hL]; exact k.ls, ⟨o1, q1, q2, fun q hq => by rw [hasV_cons, q3 q hq]; simp⟩, fun v hv => ?_, k.tmp, by rw [hw']; exact k.heap, fun ho => ?_, by rw [hc']; exact k.n0, k.s0, k.lx⟩
    · rw [hasV_cons, k.nv]
      simp only [Bool.or_false, beq_eq_false_iff_ne, ne_eq]
      exact fun h => h2 h.symm
    · rcases List.mem_cons.1 hv with rfl | hv
      · refine ⟨fun hh => ?_, by simp [XOper.temps, lateX_temps ke.lx]⟩
        simp only [Option.some.injEq] at hh
        exact h2 (congrArg EE.k (h.e.dis e' h1 e he (.inr (.inr hh.symm))))
      · exact k.free v hv
    · rcases hown _ ho with h3 | h3
      · exact k.own h3
      · exact h2 (congrArg EE.k (h.e.dis e' h1 e he (.inr (.inl h3))))
  · by_cases hk : e'.k = e.k
    · exact .inl hk
    · exact .inr (List.mem_filter.2 ⟨he', by simpa using hk⟩)
  · by_cases hk : e'.k = e.k
    · right
      rw [h.e.dis e' he' e he (.inl hk)]
    · exact .inl (List.mem_filter.2 ⟨he', by simpa using hk⟩)
theorem comp_isAlloc {o : Oper} {T : Nat} {z : List AV} (h : (compOp P o).getD .bad = .alloc T z) : o.op = .alloc T ∧ tzero P T = some z := by
  cases hc : compOp P o with
  | none => rw [hc] at h; cases h
  | some x =>
    rw [hc] at h
    simp only [Option.getD_some] at h
    subst h
    obtain ⟨dst, op, type, pos, after, guard⟩ := o
    cases op <;> simp only [compOp] at hc <;>
      first
      | (simp only [Option.map_eq_some_iff] at hc; obtain ⟨z', h1, h2⟩ := hc; cases h2; exact ⟨rfl, h1⟩)
      | (exfalso
         repeat' (first
           | (cases hc; done)
           | (rename_i hq _; cases hq; done)
           | (obtain ⟨_, _, hc⟩ := hc)
           | split at hc
           | (simp only [Option.bind_eq_some_iff, Option.map_eq_some_iff] at hc; obtain ⟨_, _, hc⟩ := hc)
           | unfold compBin at hc | unfold compConv at hc | unfold compCall at hc))
theorem comp_isLit {o : Oper} {T k n : Nat} {z : List AV} {ps : List (Nat × Nat × XO)} (h : (compOp P o).getD .bad = .lit T k n z ps) (hn : 0 < n) : ∃ t qs z0, o.op = .buildSlice t n qs ∧ P.underlying t = some (.slice T) ∧ tsz P T = some k ∧ tzero P T = some z0 ∧
    z0.length = k ∧ 0 < k ∧ n * k ≤ 4096 ∧ compParts P (fun i => some (i * k, k)) qs.toList = some ps ∧ z = ((List.range (n * k)).map fun j => (z0[j % z0.length]?).getD .u) := by
  cases hc : compOp P o with
  | none => rw [hc] at h; cases h
  | some x =>
    rw [hc] at h
    simp only [Option.getD_some] at h
    subst h
    obtain ⟨dst, op, type, pos, after, guard⟩ := o
    cases op <;> simp only [compOp] at hc
    case buildSlice t n' qs =>
      split at hc
      · rename_i e hu
        simp only [Option.bind_eq_some_iff] at hc
        obtain ⟨k', hk, z0, hz, hc⟩ := hc
        split at hc
        · rename_i hcond
          obtain ⟨q1, q2, q3, q4⟩ := hcond
          simp only [Option.map_eq_some_iff] at hc
          obtain ⟨l, hl, hc⟩ := hc
          cases hc
          exact ⟨t, qs, z0, rfl, hu, hk, hz, q1, q2, q4, hl, rfl⟩
        · split at hc
          · rename_i hcond
            cases hc
            exact absurd hn (by omega)
          · cases hc
      · cases hc
    case makeMap t r => cases r <;> cases hc
    case next it b => cases b <;> (simp only [Option.map_eq_some_iff] at hc; obtain ⟨_, _, hc⟩ := hc; cases hc)
    all_goals
      exfalso
      repeat' (first
        | (cases hc; done)
        | (rename_i hq _; cases hq; done)
        | (obtain ⟨_, _, hc⟩ := hc)
        | split at hc
        | (simp only [Option.bind_eq_some_iff, Option.map_eq_some_iff] at hc; obtain ⟨_, _, hc⟩ := hc)
        | unfold compBin at hc | unfold compConv at hc | unfold compCall at hc)
theorem late_run {o : Oper} {x : XOp} {T : Nat} {z : List AV} {sl : Option (Nat × Nat)} (hs : Sim P c) (hN : a.tmps.size = N) (h : (compOp P o).getD .bad = x) (hlx : x.lateX = some (T, z, sl)) :
    (∀ d, o.op ≠ .call d ∨ True) ∧ (∃ arr, LateZ P z sl arr ∧ (execOp a.eval o).run P c.w = .ok (.value (lateU c.w.heap.size sl)) (c.w.alloc (.cells arr T))) := by
  refine ⟨fun _ => .inr trivial, ?_⟩
  subst h
  cases hx : (compOp P o).getD .bad <;> rw [hx] at hlx <;> try (cases hlx; done)
  case alloc T' z' =>
    cases hlx
    obtain ⟨h3, h4⟩ := comp_isAlloc hx
    obtain ⟨zv, r1, r2⟩ := run_tzero h4 c.w
    refine ⟨zv.cells, ⟨fun c2 _ => litL_rep (c := c2) r2, fun n k h => by cases h⟩, ?_⟩
    simp [execOp, h3, Instr.alloc, r1, newVar, newRow, lateU]
  case lit T' k n z' ps =>
    simp only [XOp.lateX] at hlx
    split at hlx
    · rename_i hc
      split at hlx
      · rename_i cs hf
        split at hlx
        · rename_i hcond
          obtain ⟨hlen, hn⟩ := hcond
          cases hlx
          obtain ⟨t, qs, z0, h3, hu, hk, hz, q1, q2, q4, hl, rfl⟩ := comp_isLit hx hn
          obtain ⟨zv, hz1, hz2⟩ := run_tzero hz c.w
          have key : ∀ c2 : Cx, Sim P c2 → ∃ arr, Instr.fill (fun i => some (i * k, k)) ((Array.range (n * k)).map (zv.cells[· % zv.cells.size]!)) (qs.toList.map fun (i, x) => (i, a.eval x)) = some arr ∧ RepL c2 z arr.toList ∧ ∀ y ∈ arr.toList, y.oneCell' = true := by
            intro c2 hs2
            obtain ⟨r1, r2⟩ := litL_rep (c := c2) hz2
            obtain ⟨p1, p2⟩ := zero_row (c := c2) (n := n) r1 r2 q1 q2
            exact fill_rep (c := c2) (N := N) (ρ := fun _ => .u) hs2 ⟨hN, fun t => by simp only [RepV]⟩ _ hl hf p1 p2
          obtain ⟨arr, e1, _, _⟩ := key c hs
          refine ⟨arr, ⟨fun c2 hs2 => ?_, fun n' k' h => by cases h; exact ⟨hlen, hn⟩⟩, ?_⟩
          · obtain ⟨arr2, e2, e3, e4⟩ := key c2 hs2
            rw [e1] at e2
            cases e2
            exact ⟨e3, e4⟩
          · have hnk0 : n * k ≠ 0 := Nat.ne_of_gt (Nat.mul_pos hn q2)
            have e1' : Instr.fill (fun i => some (i * k, k)) ((Array.range (n * k)).map (zv.cells[· % zv.cells.size]!)) (qs.map fun x => (x.1, a.eval x.2)).toList = some arr := by
              rw [Array.toList_map]; exact e1
            simp only [execOp, h3]
            have hb : (Instr.buildSlice t n (qs.map fun (i, x) => (i, a.eval x))).run P c.w = .ok (.slice (some ⟨c.w.heap.size, 0, none⟩) n n) (c.w.alloc (.cells arr T)) := by
              simp only [Instr.buildSlice, Sem.run_bind, run_und hu, Result.andThen_ok, run_tsz hk, show ¬ n * k > 2 ^ 24 from by omega, if_false, hnk0, hz1, Sem.run_pure, e1']
              simp [newRow]
            simp [hb, lateU]
        · cases hlx
      · cases hlx
    · cases hlx
theorem early_sound {o : Oper} {i d T : Nat} {x : XOp} {z : List AV} {sl : Option (Nat × Nat)} {l : Option Nat} {Q : Exit → Act → World → Prop} {K' : Act → World → Prop} (hs : Sim P c) (hN : a.tmps.size = N) (hlx : x.lateX = some (T, z, sl))
    (hc : compOper P N ops o = some ⟨some d, x, none⟩) (hi : ops[i]? = some o)
    (hk : ∀ arr, LateZ P z sl arr → K' (a.put (some d) (lateU c.w.heap.size sl)) (c.w.alloc (.cells arr T))) : wpOpIn (Fw l) 0 P ops Q i K' a c.w := by
  unfold compOper at hc
  split at hc
  · rename_i hd
    split at hc
    · rename_i hg
      simp only [Option.some.injEq, XOper.mk.injEq] at hc
      obtain ⟨h1, h2, _⟩ := hc
      obtain ⟨_, arr, r2, hrun⟩ := late_run (a := a) (N := N) hs hN h2 hlx
      unfold wpOpIn
      simp only [hi]
      have hw : Region.wanted o (yielded ops a.tmps) = true := by simp [Region.wanted, hg]
      simp only [hw, if_true]
      refine ⟨fun f _ => Fw_fn l f, ?_⟩
      have hop : ∃ y, compOp P o = some y := by
        cases hco : compOp P o with
        | some y => exact ⟨y, rfl⟩
        | none =>
          rw [hco] at h2
          simp only [Option.getD_none] at h2
          subst h2
          cases hlx
      obtain ⟨y, hy⟩ := hop
      have hsem : o.semAt (Fw l).round a.eval = execOp a.eval o := Oper.semAt_eq _ _ _ (compOp_defer hy)
      rw [hsem]
      rw [hrun]
      show K' (a.put o.dst _) _
      rw [h1]
      exact hk _ r2
    · simp only [Option.map_eq_some_iff, XOper.mk.injEq] at hc
      obtain ⟨_, _, hc⟩ := hc
      exact absurd hc.2.2 (by simp)
  · cases hc
theorem all_listed (hl : LOk ops V E L) (hr : Region.ready .any ops L = []) : ∀ {V' : List VE}, WfV P N ops V' → ∀ e ∈ V', Lst L e.i := by
  intro V' hw
  induction hw with
  | nil => intro e he; cases he
  | @cons V' i x m o act hw' ho hx hni haf hm hok hact ih =>
    intro e he
    rcases List.mem_cons.1 he with rfl | he
    · simp only
      apply Classical.byContradiction
      intro hn
      have hlt : i < L.size := by rw [hl.size]; exact (Array.getElem?_eq_some_iff.1 ho).1
      have : i ∈ Region.ready .any ops L := ready_spec.2 ⟨(not_lst hlt).2 hn, o, ho, fun k hk => by
        obtain ⟨e', e1, e2⟩ := hasV_mem (haf k hk)
        rw [← e2]; exact ih e' e1⟩
      rw [hr] at this
      cases this
    · exact ih e he
def Node (ops : Array Oper) (xs : List XOper) (V : List VE) (E : List EE) (T : DT) : Prop :=
  (readyV ops V = [] ∧ T = .done) ∨ (readyV ops V ≠ [] ∧ lateFree ops xs V (readyV ops V) = true ∧ lateV xs V (lateOf xs (readyV ops V)) = true ∧ (∀ e ∈ E, e.k ∉ branchOf xs (readyV ops V)) ∧
    ∃ f, altsD (buildD ops xs f (lateOf xs (readyV ops V))) ops xs V (lateOf xs (readyV ops V)) (branchOf xs (readyV ops V)) = some T)
theorem alts_branch {b : List VE → Option DT} {Q : Env → St → Prop} {σ : St} {Z : List Nat} : ∀ {js : List Nat} {T : DT}, altsD b ops xs V Z js = some T → XTree P T ρ σ Q → ∀ j ∈ js, ∃ x t, xs[j]? = some x ∧ insOk V x (closAt ops V j) true = true ∧ Z.all (lateOkE xs x) = true ∧
    b (⟨j, x, closAt ops V j, true⟩ :: V) = some t ∧ XOne P x ρ σ fun v σ' => AgainL P (againOf V (closAt ops V j)) (ρ.put x.dst v) σ' ∧ XTree P t (ρ.put x.dst v) σ' Q := by
  intro js
  induction js with
  | nil => intro T _ _ j hj; cases hj
  | cons k js ih =>
    intro T hb hx j hj
    simp only [altsD, Option.bind_eq_some_iff] at hb
    obtain ⟨alt, halt, x, hxk, hb⟩ := hb
    split at hb
    · rename_i hok
      simp only [Bool.and_eq_true] at hok
      simp only [Option.map_eq_some_iff] at hb
      obtain ⟨t, ht, rfl⟩ := hb
      simp only [XTree] at hx
      rcases List.mem_cons.1 hj with rfl | hj
      · exact ⟨x, t, hxk, hok.1, hok.2, ht, hx.1⟩
      · exact ih halt hx.2 j hj
    · cases hb
theorem lateOkE_spec {x y : XOper} {k d : Nat} (h : lateOkE xs x k = true) (hy : xs[k]? = some y) (hd : y.dst = some d) : x.dst ≠ some d ∧ d ∉ x.temps := by
  unfold lateOkE at h
  rw [hy] at h
  simp only [hd, Bool.and_eq_true, bne_iff_ne, ne_eq, Bool.not_eq_true', List.contains_eq_mem, decide_eq_false_iff_not] at h
  exact h
section
variable (hxs : ∀ (i : Nat) (o : Oper), ops[i]? = some o → ∃ x, xs[i]? = some x ∧ compOper P N ops o = some x)
include hxs
theorem EAt.xat {e : EE} (k : EAt P N ops V L a c s0 e) : xs[e.k]? = some ⟨some e.d, e.x, none⟩ := by
  obtain ⟨o, h1, h2, _⟩ := k.op
  obtain ⟨x, h3, h4⟩ := hxs _ o h1
  rw [h2] at h4
  cases h4
  exact h3
theorem EAt.isAlloc {e : EE} (k : EAt P N ops V L a c s0 e) : isAllocAt xs e.k = true := by
  unfold isAllocAt
  rw [k.xat hxs]
  simp [XOp.isAlloc, k.lx]
theorem EAt.late {e : EE} (k : EAt P N ops V L a c s0 e) (hb : e.k ∉ branchOf xs (readyV ops V)) : e.k ∈ lateOf xs (readyV ops V) := by
  unfold lateOf
  rw [List.mem_filter]
  refine ⟨k.ready, ?_⟩
  rw [k.isAlloc hxs]
  simpa using hb
theorem Zok {x : XOper} {Z : List Nat} (hi : EOk P N ops V L a c s0 E) (hZ : ∀ e ∈ E, e.k ∈ Z) (hz : Z.all (lateOkE xs x) = true) : ∀ e ∈ E, x.dst ≠ some e.d ∧ e.d ∉ x.temps := by
  intro e he
  exact lateOkE_spec (List.all_eq_true.1 hz e.k (hZ e he)) ((hi.one e he).xat hxs) rfl
omit hxs in
theorem branch_alloc {rs : List Nat} {k : Nat} (h : k ∈ branchOf xs rs) (ha : isAllocAt xs k = true) : branchOf xs rs = [k] := by
  unfold branchOf at h ⊢
  split
  · rename_i he
    rw [if_pos he] at h
    cases rs with
    | nil => simp at h
    | cons r rs =>
      simp only [List.take_succ_cons, List.take_zero, List.mem_cons, List.not_mem_nil, or_false] at h ⊢
      rw [h]
  · rename_i he
    rw [if_neg he] at h
    have := (List.mem_filter.1 h).2
    rw [ha] at this
    cases this
theorem advance {Q : Env → St → Prop} {c0 : Cx} (hs0 : s0 = c0.w.heap.size) : ∀ (f : Nat) (Z : List Nat) (V : List VE) (T : DT) (E : List EE) (ρ : Env) (c : Cx), buildD ops xs f Z V = some T → Inv P N ops V L E s0 ρ c a → (∀ e ∈ E, e.k ∈ Z) → Ext c0 c → XTree P T ρ c.st Q →
    ∃ V' T' E' ρ' c', c'.w = c.w ∧ Ext c0 c' ∧ Inv P N ops V' L E' s0 ρ' c' a ∧ XTree P T' ρ' c'.st Q ∧ Node ops xs V' E' T' := by
  intro f
  induction f with
  | zero =>
    intro Z V T E ρ c hb hi hZ h0 hx
    simp only [buildD] at hb
    split at hb
    · rename_i he
      cases hb
      exact ⟨V, .done, E, ρ, c, rfl, h0, hi, hx, .inl ⟨by simpa using he, rfl⟩⟩
    · cases hb
  | succ f ih =>
    intro Z V T E ρ c hb hi hZ h0 hx
    simp only [buildD] at hb
    split at hb
    · rename_i he
      cases hb
      exact ⟨V, .done, E, ρ, c, rfl, h0, hi, hx, .inl ⟨by simpa using he, rfl⟩⟩
    · rename_i he
      have hne : readyV ops V ≠ [] := by simpa using he
      split at hb
      · rename_i i hf
        have hmem := List.mem_of_find?_eq_some hf
        have heag := List.find?_some hf
        simp only [Option.bind_eq_some_iff] at hb
        obtain ⟨x, hxi, hb⟩ := hb
        split at hb
        · rename_i hz
          simp only [Option.map_eq_some_iff] at hb
          obtain ⟨t, ht, rfl⟩ := hb
          obtain ⟨_, o, ho, _⟩ := readyV_spec.1 hmem
          obtain ⟨x', hxi', hxo⟩ := hxs i o ho
          rw [hxi] at hxi'; cases hxi'
          simp only [eager, hxi, Bool.and_eq_true, Bool.not_eq_true'] at heag
          simp only [XTree] at hx
          rw [XOne_val heag.1] at hx
          obtain ⟨v, hv, hx⟩ := hx
          exact ih Z _ t E _ c ht (hi.virt hmem ho hxo heag.1 heag.2 (Zok hxs hi.e hZ hz) hv) hZ h0 hx
        · cases hb
      · split at hb
        · rename_i hl
          simp only [Bool.and_eq_true] at hl
          by_cases hE : ∃ e ∈ E, e.k ∈ branchOf xs (readyV ops V)
          · obtain ⟨e, he1, he2⟩ := hE
            have ke := hi.e.one e he1
            have hbr := branch_alloc he2 (ke.isAlloc hxs)
            rw [hbr] at hb
            obtain ⟨x, t, q1, q2, q3, q4, q5⟩ := alts_branch hb hx e.k (by simp)
            rw [ke.xat hxs] at q1
            cases q1
            obtain ⟨o, ho, _⟩ := ke.op
            obtain ⟨c', ρ', r1, r2, r3, r4⟩ := hi.adopt (R := fun ρ σ => XTree P t ρ σ Q) he1 ho q2 h0 hs0 q5
            have hZ' : ∀ e' ∈ E.filter (fun e' => decide (e'.k ≠ e.k)), e'.k ∈ lateOf xs (readyV ops V) := by
              intro e' he'
              obtain ⟨m1, m2⟩ := List.mem_filter.1 he'
              refine (hi.e.one e' m1).late hxs ?_
              rw [hbr]
              simpa using m2
            obtain ⟨V', T', E', ρ'', c'', s1, s2, s3, s4, s5⟩ := ih _ _ t _ ρ' c' q4 r4 hZ' r2 r3
            exact ⟨V', T', E', ρ'', c'', s1.trans r1, s2, s3, s4, s5⟩
          · exact ⟨V, T, E, ρ, c, rfl, h0, hi, hx, .inr ⟨hne, hl.1, hl.2, fun e h1 h2 => hE ⟨e, h1, h2⟩, f, hb⟩⟩
        · cases hb
end
theorem branch_ne {rs : List Nat} (h : rs ≠ []) : ∃ i ∈ branchOf xs rs, i ∈ rs := by
  unfold branchOf
  split
  · cases rs with
    | nil => exact absurd rfl h
    | cons r rs => exact ⟨r, by simp, by simp⟩
  · rename_i he
    have : (rs.filter fun i => !isAllocAt xs i) ≠ [] := by simpa using he
    obtain ⟨i, hi⟩ := List.exists_mem_of_ne_nil _ this
    exact ⟨i, hi, (List.mem_filter.1 hi).1⟩
theorem draw_end {T : DT} {Q : Env → St → Prop} (h : Inv P N ops V L E s0 ρ c a) (hn : Node ops xs V E T) (hr : Region.ready .any ops L = []) (hx : XTree P T ρ c.st Q) : RepA c N ρ a ∧ Q ρ c.st := by
  have hall := all_listed h.l hr h.wf
  rcases hn with ⟨hnil, rfl⟩ | ⟨hne, _, _, hb, _⟩
  · have hE : ∀ e ∈ E, False := fun e he => by
      have := (h.e.one e he).ready
      rw [hnil] at this
      cases this
    refine ⟨RepA.of_f h.rep (by simp only [maskX]) fun t => .inl ?_, hx⟩
    rw [maskX_f (fun e he hnl => absurd (hall e he) hnl) (fun e he => (hE e he).elim)]
  · exfalso
    obtain ⟨i, hib, hi⟩ := branch_ne (xs := xs) hne
    obtain ⟨hni, o, ho, haf⟩ := readyV_spec.1 hi
    have hlt : i < L.size := by rw [h.l.size]; exact (Array.getElem?_eq_some_iff.1 ho).1
    have hnl : ¬ Lst L i := fun hl => by
      rcases h.l.inV i hl with h1 | ⟨e, h1, h2⟩
      · rw [h1] at hni; cases hni
      · subst h2; exact hb e h1 hib
    have : i ∈ Region.ready .any ops L := ready_spec.2 ⟨(not_lst hlt).2 hnl, o, ho, fun k hk => by
      obtain ⟨e', e1, e2⟩ := hasV_mem (haf k hk)
      rw [← e2]; exact hall e' e1⟩
    rw [hr] at this
    cases this
theorem Inv.early {l : Option Nat} {Q : Exit → Act → World → Prop} {K' : Act → World → Prop} {i : Nat} {T : DT} {c0 : Cx}
    (hxs : ∀ (i : Nat) (o : Oper), ops[i]? = some o → ∃ x, xs[i]? = some x ∧ compOper P N ops o = some x) (h : Inv P N ops V L E s0 ρ c a) (hr : i ∈ Region.ready .any ops L) (hi : i ∈ readyV ops V) (hib : i ∉ branchOf xs (readyV ops V)) (hn : Node ops xs V E T) (h0 : Ext c0 c) (hs0 : s0 = c0.w.heap.size)
    (hk : ∀ (c' : Cx) (a' : Act) (E' : List EE), Inv P N ops V (L.setIfInBounds i true) E' s0 ρ c' a' → Node ops xs V E' T → Ext c0 c' → c'.st = c.st → K' a' c'.w) : wpOpIn (Fw l) 0 P ops Q i K' a c.w := by
  obtain ⟨hg, o, ho, haf⟩ := ready_spec.1 hr
  obtain ⟨hni, o', ho', hdV⟩ := readyV_spec.1 hi
  rw [ho] at ho'; cases ho'
  have hlt : i < L.size := by rw [h.l.size]; exact (Array.getElem?_eq_some_iff.1 ho).1
  have hnl : ¬ Lst L i := (not_lst hlt).1 hg
  rcases hn with ⟨hnil, _⟩ | ⟨hne, hlf, hlv, hbE, f, hb⟩
  · rw [hnil] at hi; cases hi
  have hal : isAllocAt xs i = true := by
    unfold branchOf at hib
    split at hib
    · rename_i he
      have he : (readyV ops V).filter (fun i => !isAllocAt xs i) = [] := by simpa using he
      rw [List.filter_eq_nil_iff] at he
      simpa using he i hi
    · cases hq : isAllocAt xs i with
      | true => rfl
      | false => exact absurd (List.mem_filter.2 ⟨hi, by simp [hq]⟩) hib
  have hlate : i ∈ lateOf xs (readyV ops V) := by
    unfold lateOf
    rw [List.mem_filter]
    exact ⟨hi, by rw [hal]; simpa using hib⟩
  obtain ⟨x, hxi, hxo⟩ := hxs i o ho
  obtain ⟨d, y, T', z, sl, rfl, hlx⟩ : ∃ d y T' z sl, x = ⟨some d, y, none⟩ ∧ y.lateX = some (T', z, sl) := by
    unfold isAllocAt at hal
    rw [hxi] at hal
    obtain ⟨dst, op, guard⟩ := x
    simp only [Bool.and_eq_true, XOp.isAlloc] at hal
    obtain ⟨⟨h1, h2⟩, h3⟩ := hal
    obtain ⟨⟨T', z, sl⟩, hl⟩ := Option.isSome_iff_exists.1 h1
    cases guard with
    | some _ => cases h2
    | none => cases dst with
      | none => cases h3
      | some d => exact ⟨d, op, T', z, sl, rfl, hl⟩
  have hd : d < N := by
    have hx := hxo
    unfold compOper at hx
    split at hx
    · rename_i hd
      have hdst : o.dst = some d := by
        split at hx
        · simp only [Option.some.injEq, XOper.mk.injEq] at hx
          exact hx.1
        · simp only [Option.map_eq_some_iff, XOper.mk.injEq] at hx
          obtain ⟨_, _, hx⟩ := hx
          exact hx.1
      rw [hdst] at hd
      simpa using hd
    · cases hx
  refine early_sound h.sim h.rep.t.1 hlx hxo ho fun arr harr => ?_
  have hext : Ext c (c.alloc (.cells arr T')) := Ext.alloc c _ h.sim
  have hEd : ∀ e ∈ E, e.k ≠ i ∧ e.d ≠ d := by
    intro e he
    have ke := h.e.one e he
    have h1 : e.k ≠ i := fun hh => hnl (by rw [← hh]; exact ke.ls)
    refine ⟨h1, ?_⟩
    have hel := ke.late hxs (hbE e he)
    simp only [lateFree, Bool.and_eq_true] at hlf
    have h2 := List.all_eq_true.1 (List.all_eq_true.1 hlf.2 e.k hel) i hlate
    simp only [Bool.or_eq_true, decide_eq_true_eq, hxi] at h2
    rcases h2 with h2 | h2
    · exact absurd h2 h1
    · have := (lateOkE_spec h2 (ke.xat hxs) rfl).1
      simp only [ne_eq, Option.some.injEq] at this
      exact fun hh => this hh.symm
  have hLL : ∀ k, Lst L k → Lst (L.setIfInBounds i true) k := fun k hk => (lst_set hlt).2 (.inr hk)
  refine hk (c.alloc (.cells arr T')) _ (⟨i, c.w.heap.size, d, T', z, sl, y⟩ :: E) ⟨h.wf, ⟨by simpa using h.l.size, fun k hl => ?_, fun k o' hl hk' j hj => ?_, fun e' he' hae => hLL _ (h.l.act e' he' hae)⟩, fun e' he' hnl' => ?_, ?_, h.sim.alloc _, ⟨fun e he => ?_, fun e1 h1 e2 h2 hh => ?_⟩⟩
    (.inr ⟨hne, hlf, hlv, fun e he => ?_, f, hb⟩) (h0.trans hext) rfl
  · rcases (lst_set hlt).1 hl with rfl | hl
    · exact .inr ⟨_, List.mem_cons_self, rfl⟩
    · rcases h.l.inV k hl with h1 | ⟨e, h1, h2⟩
      · exact .inl h1
      · exact .inr ⟨e, by simp [h1], h2⟩
  · rcases (lst_set hlt).1 hl with rfl | hl
    · rw [ho] at hk'; cases hk'
      exact hLL _ (haf j hj)
    · exact hLL _ (h.l.closed k o' hl hk' j hj)
  · exact h.again e' he' fun hl => hnl' (hLL _ hl)
  · have hrep := (h.rep.mono hext).put (d := some d) (v := .u) (u := lateU c.w.heap.size sl) (by simp only [RepV]) (fun t ht => by cases ht; exact hd)
    refine RepA.of_f hrep (by simp only [maskX, put_d]) fun t => ?_
    by_cases hex : ∃ e ∈ (⟨i, c.w.heap.size, d, T', z, sl, y⟩ :: E : List EE), e.d = t
    · exact .inr (maskX_e hex)
    · left
      have hdt : ¬ (some d = some t) := fun hh => hex ⟨⟨i, c.w.heap.size, d, T', z, sl, y⟩, by simp, by simpa using hh⟩
      rw [maskX_n hex, put_f, if_neg hdt, maskX_n (fun ⟨e, h1, h2⟩ => hex ⟨e, by simp [h1], h2⟩)]
      by_cases hex2 : ∃ e' ∈ V, ¬ Lst L e'.i ∧ e'.x.dst = some t
      · obtain ⟨e', e1, e2, e3⟩ := hex2
        rw [maskE_u e1 e2 e3, maskE_u e1 _ e3]
        intro hl
        rcases (lst_set hlt).1 hl with hl | hl
        · rw [← hl, hasV_of e1] at hni; cases hni
        · exact e2 hl
      · rw [maskE_f fun e' e1 e2 e3 => hex2 ⟨e', e1, fun hl => e2 (hLL _ hl), e3⟩, maskE_f]
        intro e' e1 e2 e3
        exact hex2 ⟨e', e1, e2, e3⟩
  · rcases List.mem_cons.1 he with rfl | he
    · refine ⟨hni, (lst_set hlt).2 (.inl rfl), ⟨o, ho, hxo, hdV⟩, fun v hv => ?_, ?_, ⟨arr, heap_alloc_new c.w _, harr⟩, own_size h.sim, fun hc => Nat.lt_irrefl _ (h.sim.n0 _ hc), by rw [hs0]; exact h0.size, hlx⟩
      · exact lateOkE_spec (List.all_eq_true.1 (List.all_eq_true.1 hlv i hlate) v hv) hxi rfl
      · have hsz : d < a.tmps.size := by rw [h.rep.t.1]; exact hd
        simp [Act.put, hsz]
    · exact (h.e.one e he).step hext (fun hh => (hEd e he).2 (by simpa using hh.symm)) hLL
  · have hlt' : ∀ e ∈ E, e.b < c.w.heap.size := fun e he => by
      obtain ⟨arr, q, _⟩ := (h.e.one e he).heap
      exact (Array.getElem?_eq_some_iff.1 q).1
    rcases List.mem_cons.1 h1 with rfl | h1
    · rcases List.mem_cons.1 h2 with rfl | h2
      · rfl
      · exfalso
        have := hlt' e2 h2
        rcases hh with hh | hh | hh
        · exact (hEd e2 h2).1 hh.symm
        · simp only at hh; omega
        · exact (hEd e2 h2).2 hh.symm
    · rcases List.mem_cons.1 h2 with rfl | h2
      · exfalso
        have := hlt' e1 h1
        rcases hh with hh | hh | hh
        · exact (hEd e1 h1).1 hh
        · simp only at hh; omega
        · exact (hEd e1 h1).2 hh
      · exact h.e.dis e1 h1 e2 h2 hh
  · rcases List.mem_cons.1 he with rfl | he
    · exact hib
    · exact hbE e he
theorem draw_sound (hxs : ∀ (i : Nat) (o : Oper), ops[i]? = some o → ∃ x, xs[i]? = some x ∧ compOper P N ops o = some x) {l : Option Nat} {Q : Exit → Act → World → Prop} {K : Env → St → Prop} {c0 : Cx} (hs0 : s0 = c0.w.heap.size)
    (hq : ∀ (c' : Cx) (ρ' : Env) (a' : Act), Sim P c' → Ext c0 c' → RepA c' N ρ' a' → K ρ' c'.st → Q .normal a' c'.w) :
    ∀ (fuel : Nat) (V : List VE) (T : DT) (E : List EE) (L : Array Bool) (ρ : Env) (c : Cx) (a : Act), Node ops xs V E T → Inv P N ops V L E s0 ρ c a → Ext c0 c → XTree P T ρ c.st K → unl ops.size L ≤ fuel → wpAnyIn (Fw l) 0 P .any ops Q fuel L a c.w := by
  intro fuel
  induction fuel with
  | zero =>
    intro V T E L ρ c a hn hi h0 hx hu
    have hr : Region.ready .any ops L = [] := by
      apply List.eq_nil_iff_forall_not_mem.2
      intro i hir
      obtain ⟨hg, o, ho, _⟩ := ready_spec.1 hir
      have hlt : i < ops.size := (Array.getElem?_eq_some_iff.1 ho).1
      exact (not_lst (by rw [hi.l.size]; exact hlt)).1 hg (unl_zero (Nat.le_zero.1 hu) hlt)
    obtain ⟨h1, h2⟩ := draw_end hi hn hr hx
    exact ⟨hr, hq c ρ a hi.sim h0 h1 h2⟩
  | succ fuel ih =>
    intro V T E L ρ c a hn hi h0 hx hu
    refine ⟨fun hr => ?_, fun i hir => ?_⟩
    · obtain ⟨h1, h2⟩ := draw_end hi hn hr hx
      exact hq c ρ a hi.sim h0 h1 h2
    · obtain ⟨hg, o, ho, haf⟩ := ready_spec.1 hir
      have hlt : i < ops.size := (Array.getElem?_eq_some_iff.1 ho).1
      have hnl : ¬ Lst L i := (not_lst (by rw [hi.l.size]; exact hlt)).1 hg
      have hu' : unl ops.size (L.setIfInBounds i true) ≤ fuel := by
        have := unl_set hi.l.size hlt hnl
        omega
      cases hv : hasV V i with
      | true =>
        obtain ⟨e, he, rfl⟩ := hasV_mem hv
        refine hi.late he hir fun c' a' hi' he' hσ => ?_
        exact ih V T E _ ρ c' a' hn hi' (h0.trans he') (by rw [hσ]; exact hx) hu'
      | false =>
        have hrv : i ∈ readyV ops V := by
          rcases hn with ⟨hnil, _⟩ | ⟨hne, hlf, hlv, hbE, f, hb⟩
          · refine readyV_spec.2 ⟨hv, o, ho, fun k hk => ?_⟩
            rcases hi.l.inV k (haf k hk) with h1 | ⟨e, h1, h2⟩
            · exact h1
            · have := (hi.e.one e h1).ready
              rw [hnil] at this
              cases this
          · by_cases hil : i ∈ lateOf xs (readyV ops V)
            · exact (List.mem_filter.1 hil).1
            · simp only [lateFree, Bool.and_eq_true] at hlf
              have hmem : ∀ k, hasV ((lateOf xs (readyV ops V)).map (fun k => (⟨k, ⟨none, .bad, none⟩, 0, true⟩ : VE)) ++ V) k = true ↔ (k ∈ lateOf xs (readyV ops V) ∨ hasV V k = true) := by
                intro k
                simp only [hasV, List.any_append, Bool.or_eq_true, List.any_map, List.any_eq_true, Function.comp, beq_iff_eq]
                simp
              have : i ∈ readyV ops ((lateOf xs (readyV ops V)).map (fun k => (⟨k, ⟨none, .bad, none⟩, 0, true⟩ : VE)) ++ V) := by
                refine readyV_spec.2 ⟨?_, o, ho, fun k hk => ?_⟩
                · rw [Bool.eq_false_iff]
                  intro hh
                  rcases (hmem i).1 hh with h1 | h1
                  · exact hil h1
                  · rw [hv] at h1; cases h1
                · rcases hi.l.inV k (haf k hk) with h1 | ⟨e, h1, h2⟩
                  · exact (hmem k).2 (.inr h1)
                  · subst h2
                    exact (hmem _).2 (.inl ((hi.e.one e h1).late hxs (hbE e h1)))
              have := List.all_eq_true.1 hlf.1 i this
              simpa using this
        by_cases hib : i ∈ branchOf xs (readyV ops V)
        · rcases hn with ⟨hnil, _⟩ | ⟨hne, hlf, hlv, hbE, f, hb⟩
          · rw [hnil] at hrv; cases hrv
          · obtain ⟨x, t, hxi, hok, hz, ht, hone⟩ := alts_branch hb hx i hib
            obtain ⟨x', hxi', hxo⟩ := hxs i o ho
            rw [hxi] at hxi'; cases hxi'
            have hZ : ∀ e ∈ E, e.k ∈ lateOf xs (readyV ops V) := fun e he => (hi.e.one e he).late hxs (hbE e he)
            refine hi.acts (R := fun ρ σ => XTree P t ρ σ K) hir hrv ho hxo hok (Zok hxs hi.e hZ hz) hone fun c' a' ρ' hi' he' hx' => ?_
            obtain ⟨V'', T'', E'', ρ'', c'', hw, h0', hi'', hx'', hn''⟩ := advance hxs hs0 f _ _ t E ρ' c' ht hi' hZ (h0.trans he') hx'
            rw [← hw]
            exact ih V'' T'' E'' _ ρ'' c'' a' hn'' hi'' h0' hx'' hu'
        · exact hi.early hxs hir hrv hib hn h0 hs0 fun c' a' E' hi' hn' h0' hσ => ih V T E' _ ρ c' a' hn' hi' h0' (by rw [hσ]; exact hx) hu'
theorem AX.draw (hm : P.follows .mixedOrders = true) {rd : Option (Nat × Nat)} {σ : St} {T : DT} {Q : XExit → Env → St → Prop} (h : XTree P T ρ σ (Q .normal)) : AX P N rd (.draw T) ρ σ Q := by
  intro hk hn code hc c a lp h1 h2 h3 h4
  have : ∃ id ops xs, code = .region id ops true ∧ compList P N ops ops.toList = some xs ∧ buildD ops xs ops.size [] [] = some T := by
    cases code with
    | region id ops dr =>
      cases dr
      · simp [comp, Option.bind_eq_some_iff, Option.map_eq_some_iff] at hc
      · simp only [comp, Option.bind_eq_some_iff, Option.map_eq_some_iff] at hc
        obtain ⟨l', hl, t, ht, he⟩ := hc
        cases he
        exact ⟨id, ops, l', rfl, hl, ht⟩
    | _ => simp [comp, Option.bind_eq_some_iff, Option.map_eq_some_iff] at hc
  obtain ⟨id, ops, xs, rfl, hl, ht⟩ := this
  subst h1
  obtain ⟨g1, g2⟩ := compList_get hl
  have hxs : ∀ (i : Nat) (o : Oper), ops[i]? = some o → ∃ x, xs[i]? = some x ∧ compOper P N ops o = some x := fun i o ho => g2 i o (by simpa using ho)
  apply wpIn_region_any hm
  have h0 : ∀ k, ¬ Lst (Array.replicate ops.size false) k := by
    intro k
    unfold Lst
    rw [Array.getD_eq_getD_getElem?, Array.getElem?_replicate]
    split <;> simp
  have hinv : Inv P N ops [] (Array.replicate ops.size false) [] c.drew.w.heap.size ρ c.drew a := by
    refine ⟨.nil, ⟨by simp, fun k hk => absurd hk (h0 k), fun k o hk => absurd hk (h0 k), fun e he => (by cases he)⟩, fun e he => (by cases he), ?_, h2.drew, ⟨fun e he => (by cases he), fun e he => (by cases he)⟩⟩
    exact RepA.of_f (h3.mono (Ext.drew c)) (by simp only [maskX]) fun t => .inl (maskX_f (fun e he => (by cases he)) (fun e he => (by cases he)))
  obtain ⟨V', T', E', ρ', c', hw, h0, hi', hx', hn'⟩ := advance hxs rfl ops.size [] [] T [] ρ c.drew ht hinv (fun e he => (by cases he)) (Ext.refl _) h
  have hun : unl ops.size (Array.replicate ops.size false) ≤ ops.size := by
    unfold unl
    exact Nat.le_trans (List.length_filter_le _ _) (by simp)
  have := draw_sound (P := P) (N := N) (l := lp) (c0 := c.drew) (K := Q .normal) (Q := APost P c N Q) hxs rfl (fun c' ρ'' a' k1 k2 k3 k4 => ⟨c', ρ'', .normal, rfl, k1, (Ext.drew c).trans k2, k3, rfl, k4⟩) ops.size V' T' E' _ ρ' c' a hn' hi' h0 hx' hun
  rw [hw] at this
  exact this
end
end Hb
end

section
set_option linter.unusedVariables false
set_option linter.unusedSimpArgs false
set_option linter.constructorNameAsVariable false
set_option autoImplicit false
set_option linter.unusedSimpArgs false
set_option linter.unusedVariables false
set_option linter.constructorNameAsVariable false
namespace Hb
open Go
inductive XR where
  | t (n : Nat)
  | c (a : Nat) (g : Bool) (n : Nat)
  deriving Inhabited
def compR (P : Prg) : ResultVar → Option XR
  | .tmp t => some (.t t)
  | .cell a T => (tagg P T).bind fun g => (tsz P T).map fun n => .c a g n
def compRs (P : Prg) : List ResultVar → Option (List XR)
  | [] => some []
  | r :: rs => (compR P r).bind fun x => (compRs P rs).map fun xs => x :: xs
def XR.ev (σ : Store) (ρ : Nat → AV) : XR → Option AV
  | .t k => some (ρ k)
  | .c a g n => xpure σ ρ (.load g n (.t a))
def evRs (σ : Store) (ρ : Nat → AV) : List XR → Option (List AV)
  | [] => some []
  | x :: xs => (x.ev σ ρ).bind fun v => (evRs σ ρ xs).map fun vs => v :: vs
def oneOrTup : List AV → AV
  | [v] => v
  | l => .tup l
def leave (σ : Store) : List (Nat × Nat) → Option Store
  | [] => some σ
  | (r, st) :: d => match σ.at r st with
    | some (.dfr _) => leave (σ.set r none) d
    | _ => none
def BodyQ (rs : List XR) (K : AV → St → Prop) : XExit → Env → St → Prop
  | .exit _, _, _ => False
  | _, ρ, σ => match leave σ.1 ρ.d with
    | some σ' => match evRs σ' ρ.f rs with
      | some l => K (oneOrTup l) (σ', σ.2)
      | none => False
    | none => False
def argEnv (args : List AV) : Nat → AV := fun t => args.getD t (.tup [])
structure FunOk (P : Prg) (f : FuncId) (x : XC) (rs : List XR) (n : Nat) : Prop where
  ok : ∃ fn code h, P.funcs[f]? = some fn ∧ fn.name ≠ "runtime.NumGoroutine" ∧ fn.body = some code ∧ comp P fn.ntmps h code = some x ∧ compRs P fn.results.toList = some rs ∧ fn.ntmps = n
  names : XOk P n x
def funOk (P : Prg) (f : FuncId) (h : XC) : Option (XC × List XR × Nat) :=
  match P.funcs[f]? with
  | some fn => if fn.name == "runtime.NumGoroutine" then none else fn.body.bind fun code => (comp P fn.ntmps h code).bind fun x => (compRs P fn.results.toList).map fun rs => (x, rs, fn.ntmps)
  | none => none
theorem FunOk.of {P : Prg} {f : FuncId} {x : XC} {rs : List XR} {n : Nat} {hn : XC} (h : funOk P f hn = some (x, rs, n)) (hx : XOk P n x) : FunOk P f x rs n := by
  unfold funOk at h
  split at h
  · rename_i fn hf
    split at h
    · cases h
    · rename_i hn
      simp only [Option.bind_eq_some_iff, Option.map_eq_some_iff] at h
      obtain ⟨code, hb, x', hx', rs', hrs, he⟩ := h
      cases he
      exact ⟨⟨fn, code, _, hf, by simpa using hn, hb, hx', hrs, rfl⟩, hx⟩
  · cases h
section
variable {P : Prg} {c : Cx} {N : Nat} {ρ : Env} {a : Act} {K : AV → St → Prop}
def resOf (tmps : Array Value) : ResultVar → Sem Value
  | .tmp t => pure (tmps.getD t undef)
  | .cell p t => do loadVar t (← asAddr (tmps.getD p undef))
theorem results_eq (fn : Func) (tmps : Array Value) : results fn tmps = (fn.results.mapM (resOf tmps) >>= fun vs => pure (if h : vs.size = 1 then vs[0] else .tuple vs)) := by
  unfold results
  have : (fun r : ResultVar => (match r with | .tmp t => pure (tmps.getD t undef) | .cell a t => do loadVar t (← asAddr (tmps.getD a undef)) : Sem Value)) = resOf tmps := by
    funext r; cases r <;> rfl
  rw [← this]
  rfl
theorem run_compR {r : ResultVar} {x : XR} {v : AV} (hs : Sim P c) (ht : RepT c N ρ.f a.tmps) (hc : compR P r = some x) (hx : x.ev c.σ ρ.f = some v) :
    ∃ u, (resOf a.tmps r).run P c.w = .ok u c.w ∧ RepV c v u := by
  cases r with
  | tmp t =>
    simp only [compR, Option.some.injEq] at hc
    subst hc
    simp only [XR.ev, Option.some.injEq] at hx
    subst hx
    exact ⟨_, rfl, ht.2 t⟩
  | cell p t =>
    simp only [compR, Option.bind_eq_some_iff, Option.map_eq_some_iff] at hc
    obtain ⟨g, hg, n, hn, rfl⟩ := hc
    simp only [XR.ev] at hx
    have hc' : compOp P ({ dst := none, op := .load t (.tmp p), type := 0, pos := "", after := #[], guard := none } : Oper) = some (.load g n (.t p)) := by
      simp [compOp, hg, hn, compO]
    obtain ⟨u, h1, h2⟩ := xpure_sound hs ht hc' hx
    refine ⟨u, ?_, h2⟩
    simp only [execOp, Instr.loadAt, Sem.run_bind, Act.eval] at h1
    simp only [resOf, Sem.run_bind]
    have hp := ht.2 p
    have : ∃ ad, a.tmps.getD p undef = .pointer (some ad) := by
      simp only [xpure, XO.ev] at hx
      cases he : ρ.f p <;> rw [he] at hx <;> first | (cases hx; done) | skip
      · rename_i r st k i o
        rw [he] at hp
        simp only [Option.bind_eq_some_iff] at hx
        obtain ⟨cs, hcs, _⟩ := hx
        have hl : c.σ.live r st = true := by
          unfold Store.cells at hcs
          unfold Store.live
          split at hcs
          · rename_i hat; rw [hat]; rfl
          · cases hcs
        exact ⟨_, hp.p_live hl⟩
      · rw [he] at hp
        simp only [RepV] at hp
        obtain ⟨b, off, h, _⟩ := hp
        exact ⟨_, h⟩
    obtain ⟨ad, had⟩ := this
    rw [had] at h1 ⊢
    simp only [Instr.sureAddr, asAddr, Sem.run_pure, Result.andThen_ok] at h1 ⊢
    revert h1
    cases (loadVar t ad).run P c.w with
    | ok u' w' => simp only [Result.andThen_ok, Sem.run_pure, Result.ok.injEq, Next.value.injEq]; rintro ⟨rfl, rfl⟩; exact ⟨rfl, rfl⟩
    | halt e w' => intro h; simp [Result.andThen] at h
theorem run_compRs (hs : Sim P c) (ht : RepT c N ρ.f a.tmps) : ∀ {rs : List ResultVar} {xs : List XR} {vs : List AV}, compRs P rs = some xs → evRs c.σ ρ.f xs = some vs →
    ∃ us, (rs.mapM (resOf a.tmps) : Sem (List Value)).run P c.w = .ok us c.w ∧ RepL c vs us
  | [], xs, vs, hc, hx => by
    simp only [compRs, Option.some.injEq] at hc
    subst hc
    simp only [evRs, Option.some.injEq] at hx
    subst hx
    exact ⟨[], by simp, by simp [RepL]⟩
  | r :: rs, xs, vs, hc, hx => by
    simp only [compRs, Option.bind_eq_some_iff, Option.map_eq_some_iff] at hc
    obtain ⟨x, hx1, xs', hxs, rfl⟩ := hc
    simp only [evRs, Option.bind_eq_some_iff, Option.map_eq_some_iff] at hx
    obtain ⟨v, hv, vs', hvs, rfl⟩ := hx
    obtain ⟨u, h1, h2⟩ := run_compR hs ht hx1 hv
    obtain ⟨us, h3, h4⟩ := run_compRs hs ht hxs hvs
    refine ⟨u :: us, ?_, by simp only [RepL]; exact ⟨u, us, rfl, h2, h4⟩⟩
    simp only [List.mapM_cons, Sem.run_bind, h1, Result.andThen_ok, h3, Sem.run_pure]
theorem run_results {fn : Func} {xs : List XR} {vs : List AV} (hs : Sim P c) (ht : RepT c N ρ.f a.tmps) (hc : compRs P fn.results.toList = some xs) (hx : evRs c.σ ρ.f xs = some vs) :
    ∃ u, (results fn a.tmps).run P c.w = .ok u c.w ∧ RepV c (oneOrTup vs) u := by
  obtain ⟨us, h1, h2⟩ := run_compRs hs ht hc hx
  have hrun : (results fn a.tmps).run P c.w = .ok (if h : us.toArray.size = 1 then us.toArray[0] else .tuple us.toArray) c.w := by
    rw [results_eq, Array.mapM_eq_mapM_toList, Sem.run_bind]
    simp only [map_eq_pure_bind, Sem.run_bind]
    rw [h1]
    rfl
  refine ⟨_, hrun, ?_⟩
  match vs, us, h2 with
  | [], us, h2 =>
    simp only [RepL] at h2
    subst h2
    simp [oneOrTup, RepV, RepL]
  | [v], us, h2 =>
    simp only [RepL] at h2
    obtain ⟨y, ys, rfl, h3, rfl⟩ := h2
    simpa [oneOrTup] using h3
  | v :: v' :: vs, us, h2 =>
    have hl := h2.length
    have : us.toArray.size ≠ 1 := by
      rw [List.size_toArray, ← hl]; simp
    rw [dif_neg this]
    simp only [oneOrTup, RepV]
    exact ⟨_, rfl, h2⟩
theorem put_kill (hs : Sim P c) {w' : World} {r : Nat} {b : Blk} (hr : c.σ[r]? = some (some b)) (hv : b.virt = false) (hw : Wrote c ((c.loc r).1) w') :
    Sim P ⟨w', c.σ.set r none, c.loc, c.nx, c.n0⟩ ∧ Ext c ⟨w', c.σ.set r none, c.loc, c.nx, c.n0⟩ := by
  have hl : ∀ {q : Nat} {x : Blk}, (c.σ.set r none)[q]? = some (some x) → q ≠ r ∧ c.σ[q]? = some (some x) := by
    intro q x h
    rw [List.getElem?_set] at h
    split at h
    · split at h <;> cases h
    · rename_i hne; exact ⟨fun e => hne e.symm, h⟩
  have he : Ext c ⟨w', c.σ.set r none, c.loc, c.nx, c.n0⟩ := by
    refine ⟨fun x hx hn => hw.other x (fun e => hn ⟨r, b, hr, hv, e.symm⟩), fun x hx h => ?_, Nat.le_of_eq hw.size.symm, fun q blk h hlt => ?_, Nat.le_refl _, fun x arr T fz h => ?_, hw.os, hw.tape, hw.output, fun _ h => h, fun _ h => .inl h, fun x hx => hw.other x (hs.ground hr hv hx)⟩
    · obtain ⟨q, blk, h1, h2, h3⟩ := h
      exact ⟨q, blk, (hl h1).2, h2, h3⟩
    · exact ⟨blk, (hl h).2, rfl, rfl, fun _ => rfl⟩
    · rcases Nat.decEq x ((c.loc r).1) with hne | rfl
      · exact ⟨arr, fz, by rw [← h]; exact hw.other x hne, rfl⟩
      · exact hw.sz arr T fz h
  refine ⟨hs.gen he fun q x h => ?_, he⟩
  obtain ⟨hne, h1⟩ := hl h
  exact .inl ⟨h1, rfl, fun hvx => hw.other _ (fun e => hne (hs.inj q r x b h1 hr hvx hv e))⟩
theorem leaves {fn : Func} {tmps : Array Value} {rs : List XR} {R : Ending → World → Prop} : ∀ (d : List (Nat × Nat)) (l : List Deferred) (c : Cx) (σ' : Store) (vs : List AV), leave c.σ d = some σ' → RepDf c d l → Sim P c → RepT c N ρ.f tmps → compRs P fn.results.toList = some rs →
    evRs σ' ρ.f rs = some vs → (∀ (c' : Cx) (v : Value), Sim P c' → Ext c c' → RepV c' (oneOrTup vs) v → c'.st = (σ', c.nx) → R (.returned v) c'.w) → LeavesInM Fence.wide 0 P fn tmps R l .returning c.w := by
  intro d
  induction d with
  | nil =>
    intro l c σ' vs hl hd hs ht hc hx hR
    simp only [leave, Option.some.injEq] at hl
    subst hl
    have : l = [] := List.eq_nil_of_length_eq_zero hd.1.symm
    subst this
    obtain ⟨u, h1, h2⟩ := run_results (a := ⟨tmps, []⟩) hs ht hc hx
    exact ⟨u, h1, hR c u hs (Ext.refl c) h2 rfl⟩
  | cons p d ih =>
    obtain ⟨r, st⟩ := p
    intro l c σ' vs hl hd hs ht hc hx hR
    simp only [leave] at hl
    split at hl
    · rename_i st' hat
      cases l with
      | nil => have := hd.1; simp at this
      | cons d0 l =>
        obtain ⟨hst, b, hb1, hb2⟩ := hd.2 0 (r, st) (by simp)
        simp only [List.getElem?_cons_zero, Option.some.injEq] at hb1
        subst hb1
        have hb := hb2 _ hat rfl
        subst hb
        obtain ⟨g1, g2⟩ := Store.at_some hat
        obtain ⟨b1, b2⟩ := hs.blk r _ g1
        simp only [BlkRep] at b1
        have hw : Wrote c ((c.loc r).1) (c.w.putObj ((c.loc r).1) (.deferred none)) := Wrote.putObj b1 (fun _ _ _ h => by cases h)
        obtain ⟨s2, x2⟩ := put_kill hs g1 rfl hw
        refine ⟨fun h => (by cases h), .inl ⟨(c.loc r).1, _, rfl, run_takeDeferred b1, ?_⟩⟩
        have hd' : RepDf ⟨c.w.putObj ((c.loc r).1) (.deferred none), c.σ.set r none, c.loc, c.nx, c.n0⟩ d l := by
          have := hd.mono x2
          refine ⟨by have := this.1; simpa using this, fun i p hi => ?_⟩
          have := this.2 (i + 1) p (by simpa using hi)
          simpa using this
        exact ih l ⟨c.w.putObj ((c.loc r).1) (.deferred none), c.σ.set r none, c.loc, c.nx, c.n0⟩ σ' vs hl hd' s2 (ht.mono x2) hc hx fun c' v k1 k2 k3 k4 => hR c' v k1 (x2.trans k2) k3 k4
    · cases hl
theorem RepL.getD {c : Cx} {l : List AV} {vs : List Value} (h : RepL c l vs) (t : Nat) : RepV c (l.getD t (.tup [])) (vs.getD t undef) := by
  simp only [List.getD_eq_getElem?_getD]
  cases hl : l[t]? with
  | none =>
    have : vs[t]? = none := by
      rw [List.getElem?_eq_none_iff] at hl ⊢
      rw [← h.length]; exact hl
    rw [this]
    simp [RepV, RepL, undef]
  | some x =>
    obtain ⟨y, h1, h2⟩ := h.get hl
    rw [h1]
    simpa using h2
theorem ACall.of {f : FuncId} {x : XC} {rs : List XR} {n : Nat} {args : List AV} {σ : St} (hf : FunOk P f x rs n) (hn : args.length ≤ n) (h : AX P n none x ⟨argEnv args, []⟩ σ (BodyQ rs K)) : ACall P f args σ K := by
  obtain ⟨fn, code, h0, h1, h2, h3, h4, h5, rfl⟩ := hf.ok
  refine ⟨by simp [hasBody, h1, h2, h3], fun c vs hσ hs hr => ?_⟩
  refine callsIn_of_wp_marks h1 h3 trivial ?_
  have hlen := hr.length
  have hrep : RepA c fn.ntmps ⟨argEnv args, []⟩ { tmps := vs.toArray ++ Array.replicate (fn.ntmps - vs.toArray.size) undef, defers := [] } := by
    refine ⟨⟨by simp; omega, fun t => ?_⟩, by simp [RepDf]⟩
    have e : (vs.toArray ++ Array.replicate (fn.ntmps - vs.toArray.size) undef).getD t undef = vs.getD t undef := by
      rw [Array.getD_eq_getD_getElem?, Array.getElem?_append, List.getD_eq_getElem?_getD]
      split
      · simp
      · rename_i hge
        rw [Array.getElem?_replicate, List.getElem?_eq_none (by simpa using hge)]
        split <;> rfl
    simp only [e, argEnv]
    exact hr.getD t
  have hw := h hf.names h0 code h4 c _ none hσ hs hrep trivial
  refine wpIn_mono hw ?_
  rintro e a' w' ⟨c', ρ', e', rfl, k2, k3, k4, rfl, k6⟩
  have fin : (match leave c'.st.1 ρ'.d with
      | some σ' => match evRs σ' ρ'.f rs with
        | some l => K (oneOrTup l) (σ', c'.nx)
        | none => False
      | none => False) → LeavesInM Fence.wide 0 P fn a'.tmps (fun e w' => ∃ (c' : Cx) (v : Value) (av : AV), e = .returned v ∧ c'.w = w' ∧ Sim P c' ∧ Ext c c' ∧ RepV c' av v ∧ K av c'.st) a'.defers .returning c'.w := by
    intro k6
    cases hl : leave c'.st.1 ρ'.d with
    | none => rw [hl] at k6; exact k6.elim
    | some σ' =>
      rw [hl] at k6
      simp only at k6
      cases hv : evRs σ' ρ'.f rs with
      | none => rw [hv] at k6; exact k6.elim
      | some l =>
        rw [hv] at k6
        exact leaves (ρ := ρ') ρ'.d a'.defers c' σ' l hl k4.d k2 k4.t h5 hv fun c'' v m1 m2 m3 m4 => ⟨c'', v, _, rfl, rfl, m1, k3.trans m2, m3, by rw [m4]; exact k6⟩
  cases e' with
  | normal => exact fin k6
  | ret => exact fin k6
  | exit id => exact k6.elim
end
end Hb
end

section
set_option linter.unusedVariables false
set_option linter.unusedSimpArgs false
set_option linter.constructorNameAsVariable false
set_option autoImplicit false
set_option linter.unusedSimpArgs false
set_option linter.unusedVariables false
set_option linter.constructorNameAsVariable false
namespace Hb
open Go
noncomputable def pickF (L : List Nat) (f : Nat → AV) : Nat → AV :=
  List.rec (motive := fun _ => Nat → AV) (fun _ => .u) (fun t _ ih n => cond (Nat.beq n t) (f t) (ih n)) L
theorem pickF_eq (L : List Nat) (f : Nat → AV) (n : Nat) : pickF L f n = f n ∨ pickF L f n = .u := by
  induction L with
  | nil => exact .inr rfl
  | cons t L ih =>
    have : pickF (t :: L) f n = cond (Nat.beq n t) (f t) (pickF L f n) := rfl
    rw [this]
    cases hb : Nat.beq n t with
    | true => rw [Nat.eq_of_beq_eq_true hb]; exact .inl rfl
    | false => exact ih
def RangeEnd (r st : Nat) (ρ : Env) (Q : XExit → Env → St → Prop) (σ : St) : Prop :=
  match σ.1.at r st with
  | some (.loop _ state pe _ _ _ _ _ _ _) => state ≠ .busy ∧ match pe with
    | none | some .normal => Q .normal ρ (σ.1.set r none, σ.2)
    | some e => Q e ρ (σ.1.set r none, σ.2)
  | _ => False
section
variable {P : Prg} {c : Cx} {N : Nat} {ρ : Env} {a : Act} {σ : St} {Q : XExit → Env → St → Prop}
theorem comp_un {hn : XC} {code : Code} {x : XC} (h : comp P N hn code = some x) : x.un = x := by
  cases code with
  | region id ops dr =>
    cases dr <;> simp [comp, Option.bind_eq_some_iff, Option.map_eq_some_iff] at h
    · obtain ⟨_, _, rfl⟩ := h; rfl
    · obtain ⟨_, _, _, _, rfl⟩ := h; rfl
  | seq a b => simp [comp, Option.bind_eq_some_iff, Option.map_eq_some_iff] at h; obtain ⟨_, _, _, _, rfl⟩ := h; rfl
  | cond c a b => simp [comp, Option.bind_eq_some_iff, Option.map_eq_some_iff] at h; obtain ⟨_, _, _, _, _, _, rfl⟩ := h; rfl
  | block id a => simp [comp, Option.bind_eq_some_iff, Option.map_eq_some_iff] at h; obtain ⟨_, _, rfl⟩ := h; rfl
  | loop a => simp [comp, Option.bind_eq_some_iff, Option.map_eq_some_iff] at h; obtain ⟨_, _, rfl⟩ := h; rfl
  | rangeFunc f ps a b => simp [comp, Option.bind_eq_some_iff, Option.map_eq_some_iff] at h; obtain ⟨_, _, _, _, _, _, rfl⟩ := h; rfl
  | _ => simp [comp] at h; subst h; rfl
theorem reT_un {h x : XC} (hx : x.un = x) : (reT h x).un = x := by cases h <;> first | exact hx | rfl
theorem comp_range {hn : XC} {code : Code} {g : XO} {ps L : List Nat} {xa xb : XC} (h : comp P N hn code = some (.range g ps L xa xb)) :
    ∃ go pa a b ha hb, code = .rangeFunc go pa a b ∧ compO P go = some g ∧ pa.toList = ps ∧ comp P N ha a = some xa.un ∧ comp P N hb b = some xb.un := by
  cases code with
  | region id ops dr => cases dr <;> simp [comp, Option.bind_eq_some_iff, Option.map_eq_some_iff] at h
  | rangeFunc go pa a b =>
    simp only [comp, Option.bind_eq_some_iff, Option.map_eq_some_iff] at h
    obtain ⟨f, hf, x, hx, y, hy, he⟩ := h
    cases he
    exact ⟨go, pa, a, b, _, _, rfl, hf, rfl, by rw [reT_un (comp_un hx)]; exact hx, by rw [reT_un (comp_un hy)]; exact hy⟩
  | _ => simp [comp, Option.bind_eq_some_iff, Option.map_eq_some_iff] at h
theorem push_loop {ρ0 : Nat → AV} {ha hb : XC} (hs : Sim P c) (hr : RepT c N ρ0 a.tmps) {fn : FuncId} {pa : Array Tmp} {as bo : Code} {ps : List Nat} {xa xb : XC} {dr ds b : Nat} (hpa : pa.toList = ps) (hps : ∀ p ∈ ps, p < N) (h1 : comp P N ha as = some xa.un) (h2 : comp P N hb bo = some xb.un) (o1 : XOk P N xa) (o2 : XOk P N xb)
    (hds : ds < c.nx) (hd : ∀ blk, c.σ.at dr ds = some blk → blk.virt = false → b = (c.loc dr).1) :
    ∃ c' : Cx, c'.w = c.w.alloc (.loop { state := .ready, pending := none, fn, tmps := a.tmps, params := pa, assign := as, body := bo, defers := b }) ∧ c'.st = (c.σ ++ [some (.loop c.nx .ready none N ρ0 ps xa xb dr ds)], c.nx + 1) ∧
      Sim P c' ∧ Ext c c' ∧ RepV c' (.fy c.σ.length c.nx) (.func (.yield c.w.heap.size) #[] #[]) := by
  have hst : (Blk.loop c.nx .ready none N ρ0 ps xa xb dr ds).st = c.nx := rfl
  let o : Obj := .loop { state := .ready, pending := none, fn, tmps := a.tmps, params := pa, assign := as, body := bo, defers := b }
  have he := Ext.push hs o _ hst
  refine ⟨c.push o (.loop c.nx .ready none N ρ0 ps xa xb dr ds), rfl, rfl, ?_, he, ?_⟩
  · refine Sim.push hs o _ hst fun he => ?_
    simp only [BlkRep]
    refine ⟨{ state := .ready, pending := none, fn, tmps := a.tmps, params := pa, assign := as, body := bo, defers := b }, ?_, rfl, rfl, hr.mono he, hpa, ⟨_, h1, o1⟩, ⟨_, h2, o2⟩, hps, Nat.lt_of_lt_of_le hds he.nx, fun blk hb hv => ?_⟩
    · simp only [Cx.push, upd_same]
      exact heap_alloc_new c.w _
    · obtain ⟨blk0, g1, g2, g3⟩ := he.at hds hb
      rw [g3 (g2.trans hv)]
      exact hd blk0 g1 (g2.trans hv)
  · simp only [RepV]
    refine ⟨⟨_, rfl⟩, by simp [Cx.push], fun blk hb hv => ?_⟩
    simp [Cx.push]
theorem range_back {c c2 : Cx} {r st : Nat} {ρ' : Env} {l : Option Nat} {a' : Act} {e : Ending} {w' : World} {lr : Nat} (hst : st < c2.nx) (hat2 : ∃ blk, c2.σ.at r st = some blk ∧ blk.virt = false) (hlr : (c2.loc r).1 = lr) (he2 : Ext c c2) (hrep : RepA c2 N ρ' a')
    (h : ∃ (c' : Cx) (v : Value) (av : AV), e = .returned v ∧ c'.w = w' ∧ Sim P c' ∧ Ext c2 c' ∧ RepV c' av v ∧ RangeEnd r st ρ' Q c'.st) :
    rangePost (Fw l) 0 P lr (APost P c N Q) a' e w' := by
  obtain ⟨c', v, av, rfl, rfl, k1, k2, k3, k4⟩ := h
  unfold RangeEnd at k4
  split at k4
  · rename_i st' state pe N' ρl ps xa xb dr ds hat
    obtain ⟨hbusy, k4⟩ := k4
    have hat : c'.σ.at r st = some (.loop st' state pe N' ρl ps xa xb dr ds) := hat
    have hι : (c'.loc r).1 = lr := by
      obtain ⟨blk, q1, q2, q3⟩ := k2.at hst hat
      rw [q3 q2]; exact hlr
    obtain ⟨g1, g2⟩ := Store.at_some hat
    obtain ⟨lo, e1, e2, e3, _⟩ := loop_put k1 hat
    rw [hι] at e1
    have hw : Wrote c' ((c'.loc r).1) (c'.w.putObj lr (.loop { lo with state := .exhausted })) := by
      rw [hι]; exact Wrote.putObj e1 (fun _ _ _ h => by cases h)
    obtain ⟨s2, x2⟩ := put_kill k1 g1 rfl hw
    refine ⟨pe.bind XExit.code, c'.w.putObj lr (.loop { lo with state := .exhausted }), by rw [← e3]; exact run_endLoop e1 (by rw [e2]; exact hbusy), ?_⟩
    have hx := he2.trans (k2.trans x2)
    have hr2 : RepA ⟨c'.w.putObj lr (.loop { lo with state := .exhausted }), c'.σ.set r none, c'.loc, c'.nx, c'.n0⟩ N ρ' a' := hrep.mono (k2.trans x2)
    cases pe with
    | none => exact ⟨_, ρ', .normal, rfl, s2, hx, hr2, rfl, k4⟩
    | some e' => cases e' with
      | normal => exact ⟨_, ρ', .normal, rfl, s2, hx, hr2, rfl, k4⟩
      | exit id => exact wpIn_exit ⟨_, ρ', .exit id, rfl, s2, hx, hr2, rfl, k4⟩
      | ret => exact wpIn_ret ⟨_, ρ', .ret, rfl, s2, hx, hr2, rfl, k4⟩
  · exact k4.elim
theorem AX.range {g : XO} {ps L : List Nat} {xa xb : XC} {gf : FuncId} {first cap : List AV} (hg : g.ev ρ.f = .fn (.func gf) first cap) (hps : ∀ p ∈ ps, p < N)
    (h : ACall P gf (first ++ [.fy (σ.1.length + 1) (σ.2 + 1)] ++ cap) (σ.1 ++ [some (.dfr σ.2)] ++ [some (.loop (σ.2 + 1) .ready none N (pickF L ρ.f) ps xa xb σ.1.length σ.2)], σ.2 + 1 + 1)
      fun _ σ' => RangeEnd (σ.1.length + 1) (σ.2 + 1) ⟨ρ.f, (σ.1.length, σ.2) :: ρ.d⟩ Q σ') : AX P N none (.range g ps L xa xb) ρ σ Q := by
  intro hk hn code hc c a l hσ hs ha hrd
  subst hσ
  obtain ⟨go, pa, as, bo, _, _, rfl, hgo, hpa, h1, h2⟩ := comp_range hc
  have hpk : RepT c N (pickF L ρ.f) a.tmps := ⟨ha.t.1, fun t => by
    rcases pickF_eq L ρ.f t with e | e
    · rw [e]; exact ha.t.2 t
    · rw [e]; simp only [RepV]⟩
  cases l with
  | some l => exact hrd.elim
  | none =>
    refine wpIn_rangeFunc fun fn _ => ?_
    have hgr := compO_rep hs ha.t hgo
    rw [hg] at hgr
    simp only [RepV] at hgr
    obtain ⟨f', cp', hv, hf1, hc1⟩ := hgr
    -- the block for the deferred calls
    have hst1 : (Blk.dfr c.nx).st = c.nx := rfl
    have x1 := Ext.push hs (.deferred (some [])) (.dfr c.nx) hst1
    have s1 : Sim P (c.push (.deferred (some [])) (.dfr c.nx)) := Sim.push hs _ _ hst1 fun he => by
      simp only [BlkRep, Cx.push, upd_same]
      exact heap_alloc_new c.w _
    have hat1 : (c.push (.deferred (some [])) (.dfr c.nx)).σ.at c.σ.length c.nx = some (.dfr c.nx) := Store.at_of (by simp [Cx.push]) rfl
    have hι1 : (c.push (.deferred (some [])) (.dfr c.nx)).loc c.σ.length = (c.w.heap.size, 0) := by simp [Cx.push]
    obtain ⟨c2, e1, e2, s2, x2, r2⟩ := push_loop (fn := fn) (pa := pa) (as := as) (bo := bo) (ps := ps) (dr := c.σ.length) (ds := c.nx) (b := c.w.heap.size) s1 (hpk.mono x1) hpa hps h1 h2 hk.1 hk.2 (by simp [Cx.push]) (fun blk hb hv => (congrArg Prod.fst hι1).symm)
    have hlen : (c.push (.deferred (some [])) (.dfr c.nx)).σ.length = c.σ.length + 1 := by simp [Cx.push]
    have hnx : (c.push (.deferred (some [])) (.dfr c.nx)).nx = c.nx + 1 := rfl
    have hsz : (c.push (.deferred (some [])) (.dfr c.nx)).w.heap.size = c.w.heap.size + 1 := by simp [Cx.push]
    rw [hlen, hnx, hsz] at r2
    rw [hnx] at e2
    have hw2 : c2.w = (c.w.alloc (.deferred (some []))).alloc (.loop { state := .ready, pending := none, fn, tmps := a.tmps, params := pa, assign := as, body := bo, defers := c.w.heap.size }) := e1
    have hst2 : c2.st = (c.σ ++ [some (.dfr c.nx)] ++ [some (.loop (c.nx + 1) .ready none N (pickF L ρ.f) ps xa xb c.σ.length c.nx)], c.nx + 1 + 1) := e2
    have x02 := x1.trans x2
    have hrep2 : RepL c2 (first ++ [.fy (c.σ.length + 1) (c.nx + 1)] ++ cap) (f'.toList ++ [Value.func (.yield (c.w.heap.size + 1)) #[] #[]] ++ cp'.toList) :=
      ((RepL.mono x02 _ _ hf1).append (by simp only [RepL]; exact ⟨_, [], rfl, r2, rfl⟩)).append (RepL.mono x02 _ _ hc1)
    have hcall := h.2 c2 _ hst2 s2 hrep2
    refine ⟨c.w.heap.size + 1, [{ target := .collected c.w.heap.size, args := #[] }], c2.w, ⟨.fn (.func gf) cp', f' ++ #[Value.func (.yield (c.w.heap.size + 1)) #[] #[]]⟩, c2.w, gf, (f'.toList ++ [Value.func (.yield (c.w.heap.size + 1)) #[] #[]] ++ cp'.toList).toArray, c2.w, ?_, ?_, fun f _ => Fw_fn none f, ?_, fun h => (by cases h), ?_⟩
    · rw [hw2]
      exact run_enterLoop_outer fn a.tmps pa as bo
    · simp only [resolve, rangeCall, Deferred.ofValue, hv, Sem.run_pure]
      simp [Act.eval]
    · simp only [invoke]
      rw [run_callFunc_body h.1]
      simp
    · refine CallsIn.mono hcall fun e w' hR => ?_
      refine range_back (c2 := c2) (r := c.σ.length + 1) (st := c.nx + 1) (ρ' := ⟨ρ.f, (c.σ.length, c.nx) :: ρ.d⟩) (l := none) ?_ ?_ ?_ x02 ?_ hR
      · have := congrArg Prod.snd hst2
        simp only [Cx.st] at this
        omega
      · have := congrArg Prod.fst hst2
        simp only [Cx.st] at this
        refine ⟨_, Store.at_of (b := .loop (c.nx + 1) .ready none N (pickF L ρ.f) ps xa xb c.σ.length c.nx) ?_ rfl, rfl⟩
        rw [this]
        simp
      · simp only [RepV] at r2
        have hat : c2.σ.at (c.σ.length + 1) (c.nx + 1) = some (.loop (c.nx + 1) .ready none N (pickF L ρ.f) ps xa xb c.σ.length c.nx) := by
          have := congrArg Prod.fst hst2
          simp only [Cx.st] at this
          refine Store.at_of ?_ rfl
          rw [this]; simp
        have := r2.2.2 _ hat rfl
        injection this with this
        injection this with this
        exact this.symm
      · have hm := ha.mono x02
        refine ⟨hm.t, ⟨by simp [hm.d.1], fun i p hi => ?_⟩⟩
        cases i with
        | zero =>
          simp only [List.getElem?_cons_zero, Option.some.injEq] at hi
          subst hi
          refine ⟨Nat.lt_of_lt_of_le (by simp [Cx.push]) x2.nx, c.w.heap.size, by simp, fun blk hb hv => ?_⟩
          obtain ⟨blk0, q1, q2, q3⟩ := x2.at (show c.nx < (c.push (.deferred (some [])) (.dfr c.nx)).nx by simp [Cx.push]) hb
          rw [q3 (q2.trans hv)]
          exact (congrArg Prod.fst hι1).symm
        | succ i =>
          simp only [List.getElem?_cons_succ] at hi
          have := hm.d.2 i p hi
          simpa using this
end
end Hb
end

section
set_option linter.unusedVariables false
set_option linter.unusedSimpArgs false
set_option linter.constructorNameAsVariable false
set_option autoImplicit false
set_option linter.unusedSimpArgs false
set_option linter.unusedVariables false
set_option linter.constructorNameAsVariable false
namespace Hb
open Go
inductive Dg where
  | d0 | d1 | d2 | d3
  deriving DecidableEq
inductive TR where
  | e
  | n (v : Option Blk) (a b x y : TR)
def TR.v : TR → Option Blk
  | .e => none
  | .n v _ _ _ _ => v
def TR.ch (d : Dg) : TR → TR
  | .e => .e
  | .n _ a b x y => match d with
    | .d0 => a | .d1 => b | .d2 => x | .d3 => y
def TR.wv (v : Option Blk) : TR → TR
  | .e => .n v .e .e .e .e
  | .n _ a b x y => .n v a b x y
def TR.wc (t : TR) (d : Dg) (z : TR) : TR :=
  match t with
  | .e => match d with
    | .d0 => .n none z .e .e .e | .d1 => .n none .e z .e .e | .d2 => .n none .e .e z .e | .d3 => .n none .e .e .e z
  | .n w a b x y => match d with
    | .d0 => .n w z b x y | .d1 => .n w a z x y | .d2 => .n w a b z y | .d3 => .n w a b x z
def TR.getP : List Dg → TR → Option Blk
  | [], t => t.v
  | d :: p, t => TR.getP p (t.ch d)
def TR.setP (v : Option Blk) : List Dg → TR → TR
  | [], t => t.wv v
  | d :: p, t => t.wc d (TR.setP v p (t.ch d))
theorem TR.getP_e : ∀ (p : List Dg), TR.getP p .e = none
  | [] => rfl
  | d :: p => TR.getP_e p
theorem TR.get_setP (v : Option Blk) : ∀ (p q : List Dg) (t : TR), TR.getP q (TR.setP v p t) = if q = p then v else TR.getP q t
  | [], [], t => by cases t <;> rfl
  | [], d :: q, t => by
    simp only [List.cons_ne_nil, if_false]
    cases t with
    | e =>
      show TR.getP q (TR.ch d (.n v .e .e .e .e)) = TR.getP q .e
      cases d <;> rfl
    | n w a b x y => rfl
  | d :: p, [], t => by
    rw [if_neg (by simp)]
    show (TR.wc t d (TR.setP v p (t.ch d))).v = t.v
    generalize TR.setP v p (t.ch d) = z
    cases t <;> cases d <;> rfl
  | d :: p, d' :: q, t => by
    show TR.getP q (TR.ch d' (TR.wc t d (TR.setP v p (t.ch d)))) = _
    by_cases hd : d' = d
    · subst hd
      have : TR.ch d' (TR.wc t d' (TR.setP v p (t.ch d'))) = TR.setP v p (t.ch d') := by cases t <;> cases d' <;> rfl
      rw [this, TR.get_setP v p q]
      simp [TR.getP]
    · have : TR.ch d' (TR.wc t d (TR.setP v p (t.ch d))) = t.ch d' := by cases t <;> cases d <;> cases d' <;> first | rfl | exact absurd rfl hd
      rw [this, if_neg (by simp [hd])]
      rfl
def dgOf (n : Nat) : Dg := if n = 0 then .d0 else if n = 1 then .d1 else if n = 2 then .d2 else .d3
def Dg.val : Dg → Nat
  | .d0 => 0 | .d1 => 1 | .d2 => 2 | .d3 => 3
theorem dgOf_val {n : Nat} (h : n < 4) : (dgOf n).val = n := by
  unfold dgOf
  split
  · subst_vars; rfl
  · split
    · subst_vars; rfl
    · split
      · subst_vars; rfl
      · show 3 = n; omega
def pathF : Nat → Nat → List Dg
  | 0, _ => []
  | f + 1, k => if k = 0 then [] else dgOf ((k - 1) % 4) :: pathF f ((k - 1) / 4)
def pval : List Dg → Nat
  | [] => 0
  | d :: p => 4 * pval p + d.val + 1
theorem pathF_val : ∀ (f k : Nat), k < f → pval (pathF f k) = k
  | 0, k, h => by omega
  | f + 1, k, h => by
    unfold pathF
    split
    · subst_vars; rfl
    · simp only [pval]
      rw [pathF_val f ((k - 1) / 4) (by omega), dgOf_val (Nat.mod_lt _ (by decide))]
      omega
def path (r : Nat) : List Dg := pathF (r + 1) r
theorem path_inj {r q : Nat} : path r = path q ↔ r = q := by
  constructor
  · intro h
    have := congrArg pval h
    rw [path, path, pathF_val _ _ (by omega), pathF_val _ _ (by omega)] at this
    exact this
  · rintro rfl; rfl
def TR.get (t : TR) (r : Nat) : Option Blk := TR.getP (path r) t
def TR.set (t : TR) (r : Nat) (v : Option Blk) : TR := TR.setP v (path r) t
theorem TR.get_set (v : Option Blk) (t : TR) (k j : Nat) : (TR.set t k v).get j = if j = k then v else t.get j := by
  unfold TR.get TR.set
  rw [TR.get_setP]
  simp only [path_inj]
theorem beqN (a b : Nat) : Nat.beq a b = decide (a = b) := by
  rw [Bool.eq_iff_iff, Nat.beq_eq, decide_eq_true_eq]
end Hb
namespace Hb
open Go
structure ES where
  t : TR
  n : Nat
  nx : Nat
noncomputable def ES.st (s : ES) : St := ((List.range s.n).map fun r => s.t.get r, s.nx)
theorem ES.get? (s : ES) (r : Nat) : s.st.1[r]? = if r < s.n then some (s.t.get r) else none := by
  simp only [ES.st, List.getElem?_map]
  by_cases h : r < s.n
  · simp [h]
  · simp [h]
theorem ES.len (s : ES) : s.st.1.length = s.n := by simp [ES.st]
noncomputable def ES.at (s : ES) (r st : Nat) : Option Blk :=
  cond (Nat.ble (Nat.succ r) s.n) (match s.t.get r with | some b => cond (Nat.beq b.st st) (some b) none | none => none) none
theorem ES.at_eq (s : ES) (r st : Nat) : s.at r st = s.st.1.at r st := by
  unfold ES.at Store.at
  rw [ES.get?]
  by_cases h : r < s.n
  · have : Nat.ble (Nat.succ r) s.n = true := Nat.ble_eq_true_of_le h
    simp only [this, h, if_true, cond_true]
    cases s.t.get r with
    | none => simp
    | some b =>
      show cond (Nat.beq b.st st) (some b) none = if b.st = st then some b else none
      rw [beqN]
      by_cases hb : b.st = st <;> simp [hb]
  · have : Nat.ble (Nat.succ r) s.n = false := by
      rw [Bool.eq_false_iff]; intro h'; exact h (Nat.le_of_ble_eq_true h')
    simp only [this, h, if_false, cond_false]
noncomputable def ES.push (s : ES) (b : Blk) : ES := ⟨TR.set s.t s.n (some b), Nat.succ s.n, Nat.succ s.nx⟩
noncomputable def ES.put (s : ES) (r : Nat) (b : Option Blk) : ES := ⟨TR.set s.t r b, s.n, s.nx⟩
noncomputable def ES.put1 (s : ES) (r : Nat) (b : Option Blk) : ES := ⟨TR.set s.t r b, s.n, Nat.succ s.nx⟩
theorem ES.push_st (s : ES) (b : Blk) (h : s.n < 1000000000) : (s.push b).st = (s.st.1 ++ [some b], s.st.2 + 1) := by
  refine Prod.ext ?_ rfl
  apply List.ext_getElem?
  intro r
  rw [ES.get?, List.getElem?_append, ES.len, ES.get?]
  simp only [ES.push]
  rw [TR.get_set]
  by_cases h1 : r < s.n
  · simp [h1, show r < s.n.succ from by omega, show ¬ r = s.n from by omega]
  · by_cases h2 : r = s.n
    · subst h2; simp
    · have h3 : ¬ r < s.n.succ := by omega
      have h4 : r - s.n ≠ 0 := by omega
      simp only [h1, h3, if_false]
      rw [List.getElem?_eq_none (by simp; omega)]
theorem ES.put_st (s : ES) (r : Nat) (b : Option Blk) (h : r < 1000000000) : (s.put r b).st = (s.st.1.set r b, s.st.2) := by
  refine Prod.ext ?_ rfl
  apply List.ext_getElem?
  intro q
  rw [ES.get?, List.getElem?_set, ES.len, ES.get?]
  simp only [ES.put]
  rw [TR.get_set]
  by_cases h1 : q < s.n
  · by_cases h2 : r = q
    · subst h2; simp [h1]
    · simp [h1, h2, show ¬ q = r from fun e => h2 e.symm]
  · by_cases h2 : r = q
    · subst h2; simp [h1]
    · simp [h1, h2]
theorem ES.put1_st (s : ES) (r : Nat) (b : Option Blk) (h : r < 1000000000) : (s.put1 r b).st = (s.st.1.set r b, s.st.2 + 1) := by
  have := ES.put_st s r b h
  have h1 : (s.put1 r b).st.1 = (s.put r b).st.1 := rfl
  refine Prod.ext ?_ rfl
  rw [h1, this]
end Hb
end
