/- A layer for programs of small data: values, stores, code, and an evaluator of code that the kernel runs; part 5. -/
import Derived.Test.YtkmpehlhplhnhaaGreatDoorH4

section
set_option linter.unusedVariables false
set_option linter.unusedSimpArgs false
set_option linter.constructorNameAsVariable false
set_option autoImplicit false
set_option linter.unusedSimpArgs false
set_option linter.unusedVariables false
namespace Hb
open Go
section
variable {P : Prg} {c : Cx} {N : Nat} {ρ : Env} {a : Act} {K : AV → St → Prop}
def OpPost (P : Prg) (c : Cx) (N : Nat) (ρ : Env) (a : Act) (d : Option Nat) (K : AV → St → Prop) (a' : Act) (w' : World) : Prop :=
  ∃ (c' : Cx) (v : AV), c'.w = w' ∧ Sim P c' ∧ Ext c c' ∧ RepA c' N (ρ.put d v) a' ∧ K v c'.st ∧ ∃ u, a' = a.put d u
theorem run_callFunc_body {f : FuncId} (h : hasBody P f = true) (args : Array Value) (w : World) : (callFunc f args).run P w = .ok (.enter f args) w := by
  unfold hasBody at h
  cases hf : P.funcs[f]? with
  | none => rw [hf] at h; cases h
  | some fn =>
    rw [hf] at h
    simp only [Bool.and_eq_true, bne_iff_ne, ne_eq] at h
    obtain ⟨c, hb⟩ := Option.isSome_iff_exists.1 h.2
    simp [callFunc, hf, h.1, hb]
theorem compOp_defer {o : Oper} {x : XOp} (hc : compOp P o = some x) : ∀ d, o.op ≠ .defer d := by
  intro d hd
  simp [compOp, hd] at hc
theorem put_value {o : Oper} {l : Option Nat} {Q : Exit → Act → World → Prop} (hs : Sim P c) (ha : RepA c N ρ a) (hd : ∀ t, o.dst = some t → t < N) (hsem : o.semAt (Fw l).round a.eval = execOp a.eval o)
    (h : Stepped1 P c (execOp a.eval o) K) : o.wpIn (Fw l) 0 P a c.w (OpPost P c N ρ a o.dst K) Q := by
  obtain ⟨c', nx, v, hrun, hval, h3, h4, h5⟩ := h
  refine ⟨fun f _ => Fw_fn l f, ?_⟩
  rw [hsem, hrun]
  rcases hval with ⟨u, rfl, hu⟩ | ⟨rfl, rfl⟩
  · exact ⟨c', v, rfl, h3, h4, (ha.mono h4).put hu hd, h5, _, rfl⟩
  · refine ⟨c', .tup [], rfl, h3, h4, (ha.mono h4).put ?_ hd, h5, _, rfl⟩
    simp [RepV, RepL, undef]
theorem compOs_two {l : List Operand} {x y : XO} (h : compOs P l = some [x, y]) : ∃ p q, l = [p, q] ∧ compO P p = some x ∧ compO P q = some y := by
  cases l with
  | nil => simp [compOs] at h
  | cons p l =>
    simp only [compOs, Option.bind_eq_some_iff, Option.map_eq_some_iff] at h
    obtain ⟨a, ha, as, has, he⟩ := h
    cases he
    cases l with
    | nil => simp [compOs] at has
    | cons q l =>
      simp only [compOs, Option.bind_eq_some_iff, Option.map_eq_some_iff] at has
      obtain ⟨b, hb, bs, hbs, he⟩ := has
      cases he
      cases l with
      | nil => exact ⟨p, q, rfl, ha, hb⟩
      | cons r l =>
        simp only [compOs, Option.bind_eq_some_iff, Option.map_eq_some_iff] at hbs
        obtain ⟨_, _, _, _, he⟩ := hbs
        cases he
theorem pure_value {o : Oper} {x : XOp} {v : AV} (hs : Sim P c) (ha : RepA c N ρ a) (hc : compOp P o = some x) (hx : xpure c.σ ρ.f x = some v) (hk : K v c.st) : Stepped1 P c (execOp a.eval o) K := by
  obtain ⟨u, h1, h2⟩ := xpure_sound hs ha.t hc hx
  exact ⟨c, _, v, h1, .inl ⟨u, rfl, h2⟩, hs, Ext.refl c, hk⟩
theorem pure_value' {o : Oper} {x : XOp} (hs : Sim P c) (ha : RepA c N ρ a) (hc : compOp P o = some x) (hx : match xpure c.σ ρ.f x with | some v => K v c.st | none => False) : Stepped1 P c (execOp a.eval o) K := by
  cases h : xpure c.σ ρ.f x with
  | none => rw [h] at hx; exact hx.elim
  | some v => rw [h] at hx; exact pure_value hs ha hc h hx
theorem call_sound {o : Oper} {l : Option Nat} {Q : Exit → Act → World → Prop} {g : FuncId} {args : List Value} {as : List AV} (hs : Sim P c) (ha : RepA c N ρ a) (hd : ∀ t, o.dst = some t → t < N) (hsem : o.semAt (Fw l).round a.eval = execOp a.eval o)
    (hrun : (execOp a.eval o).run P c.w = (callFunc g args.toArray).run P c.w) (hr : RepL c as args) (h : ACall P g as c.st K) : o.wpIn (Fw l) 0 P a c.w (OpPost P c N ρ a o.dst K) Q := by
  refine ⟨fun f _ => Fw_fn l f, ?_⟩
  rw [hsem, hrun, run_callFunc_body h.1]
  refine ⟨fun h => (by rw [Fw_depth] at h; cases h), ?_⟩
  have hcall := h.2 c args rfl hs hr
  have hcall' : CallsIn (Fw l) 0 P g args.toArray c.w fun e w' => ∃ (c' : Cx) (v : Value) (av : AV), e = .returned v ∧ c'.w = w' ∧ Sim P c' ∧ Ext c c' ∧ RepV c' av v ∧ K av c'.st := by
    cases l with
    | none => exact hcall
    | some l => exact hcall
  refine hcall'.mono ?_
  rintro e w' ⟨c', v, av, rfl, rfl, h3, h4, h5, h6⟩
  exact ⟨c', av, rfl, h3, h4, (ha.mono h4).put h5 hd, h6, _, rfl⟩
theorem Wrote.putObj {o : Obj} {b : Nat} {x : Obj} (h : c.w.heap[b]? = some x) (hx : ∀ arr T fz, x ≠ .cells arr T fz) : Wrote c b (c.w.putObj b o) :=
  ⟨fun y hy => World.putObj_heap_other hy, World.putObj_size, fun arr T fz he => by rw [h] at he; cases he; exact absurd rfl (hx arr T fz), rfl, rfl, rfl⟩
theorem putAll_rep {c : Cx} {N : Nat} : ∀ {ps : List Nat} {as : List AV} {vs : List Value} {ρ : Nat → AV} {tmps : Array Value}, RepT c N ρ tmps → RepL c as vs → (∀ p ∈ ps, p < N) →
    RepT c N (putAll ρ ps as) ((ps.zip vs).foldl (fun tmps (x : Nat × Value) => tmps.setIfInBounds x.1 x.2) tmps)
  | [], as, vs, ρ, tmps, ht, hr, hp => by simpa [putAll] using ht
  | p :: ps, [], vs, ρ, tmps, ht, hr, hp => by
    simp only [RepL] at hr
    subst hr
    simpa [putAll] using ht
  | p :: ps, x :: as, vs, ρ, tmps, ht, hr, hp => by
    simp only [RepL] at hr
    obtain ⟨v, vs', rfl, h1, h2⟩ := hr
    simp only [putAll, List.zip_cons_cons, List.foldl_cons]
    have := (RepA.put (c := c) (N := N) (ρ := ⟨ρ, []⟩) (a := ⟨tmps, []⟩) (d := some p) ⟨ht, by simp [RepDf]⟩ h1 (fun t h => by cases h; exact hp p (by simp))).t
    exact putAll_rep (tmps := tmps.setIfInBounds p v) this h2 fun q hq => hp q (by simp [hq])
theorem put_st {c : Cx} {w' : World} {r st : Nat} {state : LoopState} {pe : Option XExit} {N' : Nat} {ρl : Nat → AV} {ps : List Nat} {xa xb : XC} {dr ds : Nat} (h : st < c.nx) :
    (c.put w' r (.loop st state pe N' ρl ps xa xb dr ds)).st = (c.σ.set r (some (.loop st state pe N' ρl ps xa xb dr ds)), c.nx) := by
  simp only [Cx.st, Cx.put, Blk.st, Nat.max_eq_left (Nat.succ_le_of_lt h)]
theorem loop_put {r st st0 : Nat} {state : LoopState} {pe : Option XExit} {N' : Nat} {ρl : Nat → AV} {ps : List Nat} {xa xb : XC} {dr ds : Nat} (hs : Sim P c) (hat : c.σ.at r st = some (.loop st0 state pe N' ρl ps xa xb dr ds)) :
    ∃ lr : Loop, c.w.heap[(c.loc r).1]? = some (.loop lr) ∧ lr.state = state ∧ lr.pending = pe.bind XExit.code ∧ st < c.nx ∧ ∀ (state' : LoopState) (pe' : Option XExit),
      Sim P (c.put (c.w.putObj ((c.loc r).1) (.loop { lr with state := state', pending := pe'.bind XExit.code })) r (.loop st state' pe' N' ρl ps xa xb dr ds)) ∧
      Ext c (c.put (c.w.putObj ((c.loc r).1) (.loop { lr with state := state', pending := pe'.bind XExit.code })) r (.loop st state' pe' N' ρl ps xa xb dr ds)) := by
  obtain ⟨g1, g2⟩ := Store.at_some hat
  obtain ⟨b1, b2⟩ := hs.blk r _ g1
  simp only [BlkRep] at b1
  obtain ⟨lr, e1, e2, e3, e5, e6, e7, e8, e9, e10, e11⟩ := b1
  refine ⟨lr, e1, e2, e3, by rw [← g2]; exact b2, fun state' pe' => ?_⟩
  have hw : Wrote c ((c.loc r).1) (c.w.putObj ((c.loc r).1) (.loop { lr with state := state', pending := pe'.bind XExit.code })) := Wrote.putObj e1 (fun _ _ _ h => by cases h)
  have hst : (Blk.loop st state' pe' N' ρl ps xa xb dr ds).st < c.nx → (Blk.loop st state' pe' N' ρl ps xa xb dr ds).st = (Blk.loop st0 state pe N' ρl ps xa xb dr ds).st := fun _ => g2.symm
  have he := Ext.put hs g1 rfl rfl hw hst
  refine ⟨Sim.put hs g1 rfl rfl hw hst fun he => ?_, he⟩
  simp only [BlkRep]
  refine ⟨{ lr with state := state', pending := pe'.bind XExit.code }, ?_, rfl, rfl, e5.mono he, e6, e7, e8, e9, Nat.lt_of_lt_of_le e10 he.nx, fun b hb hv => ?_⟩
  · exact World.putObj_heap_same (Array.getElem?_eq_some_iff.1 e1).1
  · obtain ⟨blk, q1, q2, q3⟩ := he.at e10 hb
    rw [q3 (q2.trans hv)]
    exact e11 blk q1 (q2.trans hv)
theorem round_sound {l : Option Nat} {Q : Exit → Act → World → Prop} {f : Operand} {fo : XO} {args : Array Operand} {as : List XO} {ats : Array TypeId} {r st : Nat} (hs : Sim P c) (ha : RepA c N ρ a) {dst : Option Nat} {ty : TypeId} {pos : String} {after : Array Edge} {guard : Option (Nat × Bool)}
    (hd : ∀ t, dst = some t → t < N) (hsem : (⟨dst, .call ⟨.value f, args, ats⟩, ty, pos, after, guard⟩ : Oper).semAt (Fw l).round a.eval = execOp a.eval ⟨dst, .call ⟨.value f, args, ats⟩, ty, pos, after, guard⟩)
    (hfo : compO P f = some fo) (has : compOs P args.toList = some as) (r1 : RepV c (.fy r st) (a.eval f)) (h : ARound P r st (as.map (XO.ev ρ.f)) c.st K) :
    (⟨dst, .call ⟨.value f, args, ats⟩, ty, pos, after, guard⟩ : Oper).wpIn (Fw l) 0 P a c.w (OpPost P c N ρ a dst K) Q := by
  have r2 := compOs_rep hs ha.t has
  unfold ARound at h
  split at h
  · rename_i st' pe N' ρl ps xa xb dr ds hat
    obtain ⟨hlen, h⟩ := h
    obtain ⟨g1, g2⟩ := Store.at_some hat
    obtain ⟨b1, b2⟩ := hs.blk r _ g1
    simp only [BlkRep] at b1
    obtain ⟨lr, e1, e2, e3, e5, e6, ⟨h7, e7, o7⟩, ⟨h8, e8, o8⟩, e9, e10, e11⟩ := b1
    simp only [RepV] at r1
    obtain ⟨⟨l0, hv0⟩, hst, hr1⟩ := r1
    have hv := hr1 _ hat rfl
    have hargs : args.size = lr.params.size := by
      have := r2.length
      rw [hlen, ← e6] at this
      simpa using this.symm
    have hrun : (execOp a.eval ⟨dst, .call ⟨.value f, args, ats⟩, ty, pos, after, guard⟩).run P c.w =
        .ok (.round ((c.loc r).1) lr.fn ((lr.params.zip (args.map a.eval)).foldl (fun tmps (x : Nat × Value) => tmps.setIfInBounds x.1 x.2) lr.tmps) lr.assign lr.body) c.w := by
      simp only [execOp, resolve, hv, Deferred.ofValue, Sem.run_bind, Sem.run_pure, Result.andThen_ok, invoke]
      have := run_yield (P := P) (l := (c.loc r).1) (args := #[] ++ args.map a.eval) e1 (by simpa using hargs)
      rw [this]
      simp
    refine ⟨fun f _ => Fw_fn l f, ?_⟩
    rw [hsem, hrun]
    refine ⟨fun h => (by rw [Fw_depth] at h; cases h), ?_⟩
    have hF : (Fw l).inRound ((c.loc r).1) = Fw (some ((c.loc r).1)) := by cases l <;> rfl
    refine roundIn_of_wpIn (Fw_fn l _) ?_
    rw [hF]
    have hrd : RdRep c (some (r, st)) (some ((c.loc r).1)) := ⟨hst, fun blk hb hv => rfl⟩
    have hrepA : RepA c N' ⟨putAll ρl ps (as.map (XO.ev ρ.f)), []⟩ { tmps := (lr.params.zip (args.map a.eval)).foldl (fun tmps (x : Nat × Value) => tmps.setIfInBounds x.1 x.2) lr.tmps, defers := [] } := by
      refine ⟨?_, by simp [RepDf]⟩
      have := putAll_rep (tmps := lr.tmps) e5 r2 (ps := ps) e9
      simp only
      rw [← Array.foldl_toList, Array.toList_zip, e6, Array.toList_map]
      exact this
    refine wpIn_mono (h o7 o8 o7.un h7 lr.assign e7 c _ (some ((c.loc r).1)) rfl hs hrepA hrd) ?_
    rintro e a1 w1 ⟨c1, ρ1, e', rfl, k2, k3, k4, rfl, k6⟩
    unfold RoundMid at k6
    split at k6
    · rename_i st1 pe1 N1 ρl1 ps1 xa1 xb1 dr1 ds1 hat1
      obtain ⟨_, _, _, hι1⟩ := k3.at hst hat1
      have hι1 : c1.loc r = c.loc r := by
        obtain ⟨blk, q1, q2, q3⟩ := k3.at hst hat1
        exact q3 q2
      obtain ⟨lr1, f1, f2, f3, fst, f4⟩ := loop_put k2 hat1
      obtain ⟨s2, x2⟩ := f4 .busy pe1
      rw [hι1] at f1 s2 x2
      have hpend : ({ lr1 with state := .busy, pending := pe1.bind XExit.code } : Loop) = { lr1 with state := .busy } := by
        rw [← f3]
      rw [hpend] at s2 x2
      refine ⟨_, run_beginRound f1 f2, ?_⟩
      have x02 := k3.trans x2
      refine wpIn_mono (k6 o8.un h8 lr.body e8 _ a1 (some ((c.loc r).1)) (put_st fst) s2 (k4.mono x2) (hrd.mono x02)) ?_
      rintro e a2 w2 ⟨c3, ρ3, e3', rfl, m2, m3, m4, rfl, m6⟩
      unfold RoundEnd at m6
      split at m6
      · rename_i st3 stt3 pe3 N3 ρl3 ps3 xa3 xb3 dr3 ds3 hat3
        have x03 := x02.trans m3
        have hι3 : c3.loc r = c.loc r := by
          obtain ⟨blk, q1, q2, q3⟩ := x03.at hst hat3
          exact q3 q2
        obtain ⟨lr3, p1, p2, p3, pst, p4⟩ := loop_put m2 hat3
        rw [hι3] at p1 p4
        have fin : ∀ (b : Bool) (jump : Option Code) (state' : LoopState) (pe' : Option XExit), pe'.bind XExit.code = jump → (state' = if jump.isNone then .ready else .done) → b = jump.isNone →
            K (.b b) (c3.σ.set r (some (.loop st state' pe' N3 ρl3 ps3 xa3 xb3 dr3 ds3)), c3.nx) →
            ∃ v w', (Instr.endRound ((c.loc r).1) jump).run P c3.w = .ok v w' ∧ OpPost P c N ρ a dst K (a.put dst v) w' := by
          intro b jump state' pe' h1 h2 h3 h4
          subst h1 h3
          obtain ⟨s4, x4⟩ := p4 state' pe'
          refine ⟨_, _, run_endRound _ p1, ?_⟩
          rw [← h2]
          exact ⟨_, .b (pe'.bind XExit.code).isNone, rfl, s4, x03.trans x4, (ha.mono (x03.trans x4)).put (by simp only [RepV]) hd, (by rw [put_st pst]; exact h4), _, rfl⟩
        cases e3' with
        | normal => exact fin true none .ready none rfl rfl rfl m6
        | exit id => exact fin false (some (.exit id)) .done (some (.exit id)) rfl rfl rfl m6
        | ret => exact fin false (some .ret) .done (some .ret) rfl rfl rfl m6
      · exact m6.elim
    · exact k6.elim
  · exact h.elim
set_option maxHeartbeats 2000000 in
theorem op_sound {o : Oper} {x : XOp} {l : Option Nat} {Q : Exit → Act → World → Prop} (hs : Sim P c) (ha : RepA c N ρ a) (hd : ∀ t, o.dst = some t → t < N) (hc : compOp P o = some x) (h : XStep P x ρ.f c.st K) :
    o.wpIn (Fw l) 0 P a c.w (OpPost P c N ρ a o.dst K) Q := by
  have hsem : o.semAt (Fw l).round a.eval = execOp a.eval o := Oper.semAt_eq _ _ _ (compOp_defer hc)
  have hc0 := hc
  obtain ⟨dst, op, type, pos, after, guard⟩ := o
  have gen : (match xpure c.σ ρ.f x with | some v => K v c.st | none => False) → (⟨dst, op, type, pos, after, guard⟩ : Oper).wpIn (Fw l) 0 P a c.w (OpPost P c N ρ a dst K) Q :=
    fun hx => put_value hs ha hd hsem (pure_value' hs ha hc0 hx)
  cases op <;> simp only [compOp] at hc
  case alloc e =>
    simp only [Option.map_eq_some_iff] at hc
    obtain ⟨z, hz, rfl⟩ := hc
    exact put_value hs ha hd hsem (step_alloc hs hz h)
  case box e y =>
    simp only [Option.map_eq_some_iff] at hc
    obtain ⟨z, hz, rfl⟩ := hc
    simp only [XStep] at h
    cases hcs : (z.ev ρ.f).cells with
    | none => rw [hcs] at h; exact h.elim
    | some cs => rw [hcs] at h; exact put_value hs ha hd hsem (step_box hs (compO_rep hs ha.t hz) hcs h)
  case typeAssert y xt asserted ok =>
    split at hc
    · cases hc
    · cases hc
    · simp only [Option.map_eq_some_iff] at hc
      obtain ⟨y1, h1, rfl⟩ := hc
      exact gen h
  case buildSlice t n ps =>
    split at hc
    · rename_i e hu
      simp only [Option.bind_eq_some_iff] at hc
      obtain ⟨k, hk, z, hz, hc⟩ := hc
      split at hc
      · rename_i hcond
        obtain ⟨q1, q2, q3, q4⟩ := hcond
        simp only [Option.map_eq_some_iff] at hc
        obtain ⟨l', hl, rfl⟩ := hc
        simp only [XStep] at h
        cases hf : fillA ρ.f ((List.range (n * k)).map fun j => (z[j % z.length]?).getD .u) l' with
        | none => rw [hf] at h; exact h.elim
        | some cs => rw [hf] at h; exact put_value hs ha hd hsem (step_lit hs ha.t hu hk hz q1 q2 q3 q4 hl hf h)
      · split at hc
        · rename_i hcond
          obtain ⟨rfl, rfl⟩ := hcond
          cases hc
          refine put_value hs ha hd hsem ?_
          obtain ⟨c', nx, v, e1, e2⟩ := step_lit0 (K := K) hs hu hk h
          refine ⟨c', nx, v, ?_, e2⟩
          rw [← e1]
          simp [execOp]
        · cases hc
    · cases hc
  case store t p y =>
    simp only [Option.bind_eq_some_iff, Option.map_eq_some_iff] at hc
    obtain ⟨n, hn, ao, hao, xo, hxo, rfl⟩ := hc
    simp only [XStep] at h
    cases hcs : (xo.ev ρ.f).cells with
    | none => rw [hcs] at h; exact h.elim
    | some cs =>
      rw [hcs] at h
      simp only at h
      cases hst : storeAt c.st.1 (ao.ev ρ.f) n cs with
      | none => rw [hst] at h; exact h.elim
      | some σ' => rw [hst] at h; exact put_value hs ha hd hsem (step_store hs hn (compO_rep hs ha.t hao) (compO_rep hs ha.t hxo) hcs hst h)
  case makeSlice t le ca =>
    split at hc
    · rename_i e hu
      split at hc
      · rename_i i z hi hz
        split at hc
        · rename_i hcond
          obtain ⟨q1, q2, q3⟩ := hcond
          simp only [Option.bind_eq_some_iff, Option.map_eq_some_iff] at hc
          obtain ⟨lo, hlo, co, hco, rfl⟩ := hc
          have r1 := compO_rep hs ha.t hlo
          have r2 := compO_rep hs ha.t hco
          simp only [XStep] at h
          split at h
          · rename_i l0 c0 e1 e2
            obtain ⟨h1, h2, h3, h4⟩ := h
            rw [e1] at r1
            rw [e2] at r2
            simp only [RepV] at r1 r2
            refine put_value hs ha hd hsem ?_
            simp only [execOp, r1, r2]
            exact step_mksl hs hu hi q1 hz q2 q3 h1 h2 h3 h4
          · exact h.elim
        · cases hc
      · cases hc
    · cases hc
  case convert s d y =>
    simp only [Option.bind_eq_some_iff] at hc
    obtain ⟨xo, hxo, hc⟩ := hc
    have hr := compO_rep hs ha.t hxo
    by_cases hb : ∃ T, x = .conv (.s2b T) xo
    · obtain ⟨T, rfl⟩ := hb
      simp only [XStep] at h
      split at h
      · rename_i bl e1
        rw [e1] at hr
        simp only [RepV] at hr
        refine put_value hs ha hd hsem ?_
        have hT : P.underlying s = some .string ∧ P.underlying d = some (.slice T) ∧ P.underlying T = some (.int .u8) := by
          unfold compConv at hc
          split at hc <;> try cases hc
          · split at hc
            · rename_i a1 a2 a3
              cases hc
              exact ⟨by assumption, by assumption, by assumption⟩
            · cases hc
          all_goals ((repeat' split at hc) <;> cases hc)
        obtain ⟨t1, t2, t3⟩ := hT
        have hst := step_s2b (P := P) (e := T) (l := bl) hs hr.2 h
        obtain ⟨c', nx, v, e1, e2⟩ := hst
        refine ⟨c', nx, v, ?_, e2⟩
        rw [← e1]
        simp only [execOp, hr, convert, Sem.run_bind, run_und t1, run_und t2, run_und t3, Result.andThen_ok]
      · exact h.elim
    · by_cases hm : ∃ z, x = .mks z
      · obtain ⟨z, rfl⟩ := hm
        have hT : z = xo ∧ s = d ∧ ∃ e, P.underlying s = some (.slice e) ∧ P.underlying e = some (.int .u8) := by
          unfold compConv at hc
          split at hc <;> try cases hc
          all_goals try (split at hc <;> try cases hc)
          all_goals try (split at hc <;> try cases hc)
          rename_i e _ h1 _ h2 _ h3
          exact ⟨rfl, h2, e, h1, h3⟩
        obtain ⟨rfl, rfl, e, hu1, hu2⟩ := hT
        simp only [XStep] at h
        split at h
        · rename_i σ' hσ
          exact put_value hs ha hd hsem (step_mks hs hu1 hu2 hσ hr h)
        · exact h.elim
      apply gen
      unfold compConv at hc
      split at hc <;> try cases hc
      · exact h
      · exact h
      · split at hc
        · cases hc; exact absurd ⟨_, rfl⟩ hb
        · cases hc
      all_goals ((repeat' split at hc) <;> first
        | (cases hc; done)
        | (cases hc; exact h)
        | (cases hc; exact absurd ⟨_, rfl⟩ hm))
  case call cl =>
    obtain ⟨callee, args, argTypes⟩ := cl
    simp only [compCall] at hc
    cases callee with
    | value f =>
      simp only [Option.bind_eq_some_iff, Option.map_eq_some_iff] at hc
      obtain ⟨fo, hfo, as, has, rfl⟩ := hc
      have r1 := compO_rep hs ha.t hfo
      have r2 := compOs_rep hs ha.t has
      simp only [XStep] at h
      split at h
      · rename_i g first cap e1
        rw [e1] at r1
        simp only [RepV] at r1
        obtain ⟨f', c', hv, hf1, hc1⟩ := r1
        have hrun : (execOp a.eval ⟨dst, .call ⟨.value f, args, argTypes⟩, type, pos, after, guard⟩).run P c.w = (callFunc g (f'.toList ++ args.toList.map a.eval ++ c'.toList).toArray).run P c.w := by
          simp only [execOp, resolve, hv, Deferred.ofValue, Sem.run_bind, Sem.run_pure, Result.andThen_ok, invoke]
          congr 2
          simp
        rcases h with h | h
        · exact call_sound (args := f'.toList ++ args.toList.map a.eval ++ c'.toList) hs ha hd hsem hrun ((hf1.append r2).append hc1) h
        · refine put_value hs ha hd hsem ?_
          obtain ⟨c1, u, av, a1, a2, a3, a4, a5⟩ := h c _ rfl hs ((hf1.append r2).append hc1)
          exact ⟨c1, _, av, by rw [hrun, a1], .inl ⟨u, rfl, a4⟩, a2, a3, a5⟩
      · rename_i r st e1
        rw [e1] at r1
        exact round_sound hs ha hd hsem hfo has r1 h
      · exact h.elim
    | builtin b =>
      cases b <;> simp only at hc
      case append =>
        split at hc
        · rename_i t u ht0 hu0
          have app : ∀ {e : TypeId}, P.underlying t = some (.slice e) → SrcT P u →
              (match P.info? e, tzero P e with
                | some i, some z => if i.bytes ≤ 4096 ∧ z.length = i.size then (compOs P args.toList).map fun as => XOp.bi (.append e i.size z) as else none
                | _, _ => none) = some x → (⟨dst, .call ⟨.builtin .append, args, argTypes⟩, type, pos, after, guard⟩ : Oper).wpIn (Fw l) 0 P a c.w (OpPost P c N ρ a dst K) Q := by
            intro e hte hue hc
            split at hc
            · rename_i i z hi hz
              split at hc
              · rename_i hcond
                simp only [Option.map_eq_some_iff] at hc
                obtain ⟨as, has, rfl⟩ := hc
                by_cases h2 : ∃ x y, as = [x, y]
                · obtain ⟨xo, yo, rfl⟩ := h2
                  obtain ⟨p, q, hargs, hp, hq⟩ := compOs_two has
                  have hargs' : args = #[p, q] := by
                    apply Array.ext'
                    rw [hargs]
                  subst hargs'
                  simp only [XStep] at h
                  cases hcs : cellsOfSlice c.st.1 i.size (yo.ev ρ.f) with
                  | none => rw [hcs] at h; exact h.elim
                  | some mn =>
                    obtain ⟨m, new⟩ := mn
                    rw [hcs] at h
                    refine put_value hs ha hd hsem ?_
                    have := step_append (K := K) (ty := type) hs hte hue hi hcond.1 hz hcond.2 (compO_rep hs ha.t hp) (compO_rep hs ha.t hq) hcs h
                    obtain ⟨c', nx, v, e1, e2⟩ := this
                    refine ⟨c', nx, v, ?_, e2⟩
                    rw [← e1]
                    have hap : Builtin.append_ argTypes type #[a.eval p, a.eval q] = Builtin.append_ #[t, u] type #[a.eval p, a.eval q] := by
                      simp only [Builtin.append_, ht0, hu0]
                      rfl
                    simp [execOp, resolve, invoke, builtin, hap]
                · apply gen
                  match as, h, h2 with
                  | [], h, _ => exact h
                  | [_], h, _ => exact h
                  | [x, y], _, h2 => exact absurd ⟨x, y, rfl⟩ h2
                  | _ :: _ :: _ :: _, h, _ => exact h
              · cases hc
            · cases hc
          split at hc
          · rename_i e e' hte hue
            exact app hte (.inl ⟨_, hue⟩) hc
          · rename_i e hte hue
            exact app hte (.inr hue) hc
          · rename_i e κ hte hue
            split at hc
            · rename_i i z hi hz
              split at hc
              · rename_i hcond
                simp only [Option.map_eq_some_iff] at hc
                obtain ⟨as, has, rfl⟩ := hc
                by_cases h2 : ∃ x y, as = [x, y]
                · obtain ⟨xo, yo, rfl⟩ := h2
                  obtain ⟨p, q, hargs, hp, hq⟩ := compOs_two has
                  have hargs' : args = #[p, q] := by
                    apply Array.ext'
                    rw [hargs]
                  subst hargs'
                  simp only [XStep] at h
                  split at h
                  · rename_i m hy
                    have ry := compO_rep hs ha.t hq
                    rw [hy] at ry
                    simp only [RepV] at ry
                    refine put_value hs ha hd hsem ?_
                    have := step_appz (K := K) (ty := type) hs hte hue hi hcond.1 hz hcond.2.1 hcond.2.2 (compO_rep hs ha.t hp) h
                    obtain ⟨c', nx, v, e1, e2⟩ := this
                    refine ⟨c', nx, v, ?_, e2⟩
                    rw [← e1]
                    have hap : Builtin.append_ argTypes type #[a.eval p, a.eval q] = Builtin.append_ #[t, u] type #[a.eval p, .int .i64 m] := by
                      rw [ry]
                      simp only [Builtin.append_, ht0, hu0]
                      rfl
                    simp [execOp, resolve, invoke, builtin, hap]
                  · exact h.elim
                · apply gen
                  match as, h, h2 with
                  | [], h, _ => exact h
                  | [_], h, _ => exact h
                  | [x, y], _, h2 => exact absurd ⟨x, y, rfl⟩ h2
                  | _ :: _ :: _ :: _, h, _ => exact h
              · cases hc
            · cases hc
          · cases hc
        · cases hc
      case len =>
        split at hc
        · split at hc
          · simp only [Option.map_eq_some_iff] at hc
            obtain ⟨as, has, rfl⟩ := hc
            exact gen h
          · simp only [Option.map_eq_some_iff] at hc
            obtain ⟨as, has, rfl⟩ := hc
            exact gen h
          · split at hc
            · simp only [Option.map_eq_some_iff] at hc
              obtain ⟨xo, hxo, rfl⟩ := hc
              exact gen h
            · cases hc
          · cases hc
        · cases hc
      case delete =>
        split at hc
        · rename_i t t2 p q hts hargs
          split at hc
          · rename_i kt et hu
            simp only [Option.bind_eq_some_iff, Option.map_eq_some_iff] at hc
            obtain ⟨str, hk, xo, hxo, io, hio, rfl⟩ := hc
            simp only [XStep] at h
            split at h
            · rename_i σ' hσ
              refine put_value hs ha hd hsem ?_
              have hargs' : args = #[p, q] := by apply Array.ext'; rw [hargs]
              have hts' : argTypes[0]? = some t := by rw [← Array.getElem?_toList, hts]; rfl
              obtain ⟨c', nx, v, e1, e2⟩ := step_mdel (K := K) (ty := type) hs hts' hu hk hσ (compO_rep hs ha.t hxo) (compO_rep hs ha.t hio) h
              refine ⟨c', nx, v, ?_, e2⟩
              rw [← e1]
              subst hargs'
              simp [execOp, resolve, invoke, builtin]
            · exact h.elim
          · cases hc
        · cases hc
      case clear =>
        split at hc
        · rename_i t p hts hargs
          split at hc
          · rename_i e hu
            simp only [Option.bind_eq_some_iff] at hc
            obtain ⟨k, hk, z, hz, hc⟩ := hc
            split at hc
            · rename_i hcond
              simp only [Option.map_eq_some_iff] at hc
              obtain ⟨xo, hxo, rfl⟩ := hc
              simp only [XStep] at h
              split at h
              · rename_i σ' hσ
                refine put_value hs ha hd hsem ?_
                have hargs' : args = #[p] := by apply Array.ext'; rw [hargs]
                have hts' : argTypes[0]? = some t := by rw [← Array.getElem?_toList, hts]; rfl
                obtain ⟨c', nx, v, e1, e2⟩ := step_clr (K := K) (ty := type) hs hts' hu hz hcond.1 hcond.2 hσ (compO_rep hs ha.t hxo) h
                refine ⟨c', nx, v, ?_, e2⟩
                rw [← e1]
                subst hargs'
                simp [execOp, resolve, invoke, builtin]
              · exact h.elim
            · cases hc
          · cases hc
        · cases hc
      case unsafeSliceData =>
        split at hc
        · split at hc
          · simp only [Option.map_eq_some_iff, Option.bind_eq_some_iff] at hc
            obtain ⟨k, hk, as, has, rfl⟩ := hc
            exact gen h
          · cases hc
        · cases hc
      case unsafeString =>
        split at hc
        · rename_i t it hts
          split at hc
          · rename_i e hue
            split at hc
            · rename_i hsz
              simp only [Option.map_eq_some_iff] at hc
              obtain ⟨as, has, rfl⟩ := hc
              by_cases h2 : ∃ x y, as = [x, y]
              · obtain ⟨xo, yo, rfl⟩ := h2
                obtain ⟨p, q, hargs, hp, hq⟩ := compOs_two has
                have hargs' : args = #[p, q] := by
                  apply Array.ext'
                  rw [hargs]
                have hts' : argTypes = #[t, it] := by
                  apply Array.ext'
                  rw [hts]
                subst hargs' hts'
                simp only [XStep] at h
                have ry := compO_rep hs ha.t hq
                split at h
                · rename_i m hm
                  rw [hm] at ry
                  simp only [RepV] at ry
                  cases hus : ustrAt c.st.1 e (xo.ev ρ.f) m with
                  | none => rw [hus] at h; exact h.elim
                  | some lm =>
                    obtain ⟨l0, σ'⟩ := lm
                    rw [hus] at h
                    refine put_value hs ha hd hsem ?_
                    have := step_ustr (K := K) (it := it) (ty := type) hs hue hsz (compO_rep hs ha.t hp) hus h
                    obtain ⟨c', nx, v, e1, e2⟩ := this
                    refine ⟨c', nx, v, ?_, e2⟩
                    rw [← e1]
                    simp [execOp, resolve, invoke, builtin, ry]
                · exact h.elim
              · apply gen
                match as, h, h2 with
                | [], h, _ => exact h
                | [_], h, _ => exact h
                | [x, y], _, h2 => exact absurd ⟨x, y, rfl⟩ h2
                | _ :: _ :: _ :: _, h, _ => exact h
            · cases hc
          · cases hc
        · cases hc
      case cap =>
        split at hc
        · split at hc
          · simp only [Option.map_eq_some_iff] at hc
            obtain ⟨as, has, rfl⟩ := hc
            exact gen h
          · cases hc
        · cases hc
      case copy =>
        split at hc
        · rename_i t t2 p q hts hargs
          split at hc
          · rename_i e hu
            simp only [Option.bind_eq_some_iff, Option.map_eq_some_iff] at hc
            obtain ⟨k, hk, xo, hxo, yo, hyo, rfl⟩ := hc
            simp only [XStep] at h
            split at h
            · rename_i n σ' hσ
              refine put_value hs ha hd hsem ?_
              have hargs' : args = #[p, q] := by apply Array.ext'; rw [hargs]
              have hts' : argTypes[0]? = some t := by rw [← Array.getElem?_toList, hts]; rfl
              obtain ⟨c', nx, v, e1, e2⟩ := step_cpy (K := K) (ty := type) hs hts' hu hk hσ (compO_rep hs ha.t hxo) (compO_rep hs ha.t hyo) h
              refine ⟨c', nx, v, ?_, e2⟩
              rw [← e1]
              subst hargs'
              simp [execOp, resolve, invoke, builtin]
            · exact h.elim
          · cases hc
        · cases hc
      case min =>
        simp only [Option.map_eq_some_iff] at hc
        obtain ⟨as, has, rfl⟩ := hc
        exact gen h
      case max =>
        simp only [Option.map_eq_some_iff] at hc
        obtain ⟨as, has, rfl⟩ := hc
        exact gen h
      all_goals cases hc
    | invoke r n => cases hc
  case next it b =>
    cases b with
    | false =>
      simp only [Option.map_eq_some_iff] at hc
      obtain ⟨y, hy, rfl⟩ := hc
      have hr := compO_rep hs ha.t hy
      simp only [XStep] at h
      split at h
      · rename_i r st e1
        rw [e1] at hr
        split at h
        · rename_i st' rm sm since last seen hat
          split at h
          · rename_i st2 ck es hm
            split at h
            · rename_i l0 hl0
              exact put_value hs ha hd hsem (step_nextm hs hr hat hm hl0 h)
            · exact h.elim
          · exact h.elim
        · rename_i st' ck bs ks seen hat
          split at h
          · rename_i l0 hl0
            exact put_value hs ha hd hsem (step_nextmi hs hr hat hl0 h)
          · exact h.elim
        · exact h.elim
      · exact h.elim
    | true =>
      simp only [Option.map_eq_some_iff] at hc
      obtain ⟨y, hy, rfl⟩ := hc
      have hr := compO_rep hs ha.t hy
      simp only [XStep] at h
      split at h
      · rename_i r st e1
        rw [e1] at hr
        split at h
        · rename_i st' l0 pos hat
          exact put_value hs ha hd hsem (step_next hs hr hat h)
        · exact h.elim
      · exact h.elim
  case range t y =>
    split at hc
    · rename_i hu
      simp only [Option.map_eq_some_iff] at hc
      obtain ⟨xo, hxo, rfl⟩ := hc
      have hr := compO_rep hs ha.t hxo
      simp only [XStep] at h
      split at h
      · rename_i l0 e1
        rw [e1] at hr
        simp only [RepV] at hr
        refine put_value hs ha hd hsem ?_
        have := step_rng (P := P) hs hr.2 hu h
        simp only [execOp, hr.1]
        exact this
      · exact h.elim
    · rename_i kt et hu
      simp only [Option.map_eq_some_iff] at hc
      obtain ⟨xo, hxo, rfl⟩ := hc
      have hr := compO_rep hs ha.t hxo
      simp only [XStep] at h
      split at h
      · rename_i r st e1
        rw [e1] at hr
        split at h
        · rename_i st' ck es hat
          exact put_value hs ha hd hsem (step_rngm hs hu hr hat h)
        · exact h.elim
      · rename_i ck bs ks e1
        rw [e1] at hr
        exact put_value hs ha hd hsem (step_rngmi hs hu hr h)
      · exact h.elim
    · cases hc
  case makeMap t r =>
    cases r with
    | none =>
      simp only [Option.some.injEq] at hc
      subst hc
      exact put_value hs ha hd hsem (step_mkm hs h)
    | some r => cases hc
  case lookup t y i ok =>
    split at hc
    · simp only [Option.map_eq_some_iff, Option.bind_eq_some_iff] at hc
      obtain ⟨_, _, _, _, _, _, _, _, rfl⟩ := hc
      exact gen h
    · cases hc
  case mapUpdate t y i vv =>
    split at hc
    · rename_i kt et hu
      simp only [Option.map_eq_some_iff, Option.bind_eq_some_iff] at hc
      obtain ⟨str, hk, xo, hxo, io, hio, vo, hvo, rfl⟩ := hc
      simp only [XStep] at h
      split at h
      · rename_i σ' hσ
        exact put_value hs ha hd hsem (step_mset hs hu hk hσ (compO_rep hs ha.t hxo) (compO_rep hs ha.t hio) (compO_rep hs ha.t hvo) h)
      · exact h.elim
    · cases hc
  case insert t y i vv =>
    split at hc
    · rename_i kt et hu
      simp only [Option.map_eq_some_iff, Option.bind_eq_some_iff] at hc
      obtain ⟨str, hk, xo, hxo, io, hio, vo, hvo, rfl⟩ := hc
      simp only [XStep] at h
      split at h
      · rename_i σ' hσ
        exact put_value hs ha hd hsem (step_mset hs hu hk hσ (compO_rep hs ha.t hxo) (compO_rep hs ha.t hio) (compO_rep hs ha.t hvo) h)
      · exact h.elim
    · cases hc
  all_goals cases x <;> first
    | exact gen h
    | (exfalso; simp [Option.map_eq_some_iff, Option.bind_eq_some_iff] at hc; done)
    | (exfalso; (repeat' split at hc) <;> simp [Option.map_eq_some_iff, Option.bind_eq_some_iff] at hc; done)
    | (exfalso; unfold compBin at hc; simp only [Option.bind_eq_some_iff] at hc; obtain ⟨_, _, _, _, hc⟩ := hc; (repeat' split at hc) <;> simp at hc; done)
    | skip
end
end Hb
end

section
set_option linter.unusedVariables false
set_option linter.unusedSimpArgs false
set_option linter.constructorNameAsVariable false
set_option autoImplicit false
set_option linter.unusedSimpArgs false
set_option linter.unusedVariables false
namespace Hb
open Go
section
variable (P : Prg)
def XOne (o : XOper) (ρ : Env) (σ : St) (K : AV → St → Prop) : Prop :=
  match o.guard with
  | none => XStep P o.op ρ.f σ K
  | some (t, want) => match ρ.f t with
    | .b y => if y = want then XStep P o.op ρ.f σ K else K (.tup []) σ
    | .tup [] => K (.tup []) σ
    | _ => False
def XGo : List XOper → Env → St → (Env → St → Prop) → Prop
  | [], ρ, σ, Q => Q ρ σ
  | o :: l, ρ, σ, Q => XOne P o ρ σ fun v σ' => XGo l (ρ.put o.dst v) σ' Q
def Again (o : XOper) (ρ : Env) (σ : St) : Prop := XOne P o ρ σ fun v σ' => σ' = σ ∧ ∀ d, o.dst = some d → v = ρ.f d
def AgainL : List XOper → Env → St → Prop
  | [], _, _ => True
  | o :: l, ρ, σ => Again P o ρ σ ∧ AgainL l ρ σ
def XTree : DT → Env → St → (Env → St → Prop) → Prop
  | .done, ρ, σ, Q => Q ρ σ
  | .one o t, ρ, σ, Q => XOne P o ρ σ fun v σ' => XTree t (ρ.put o.dst v) σ' Q
  | .act o ag t alt, ρ, σ, Q => (XOne P o ρ σ fun v σ' => AgainL P ag (ρ.put o.dst v) σ' ∧ XTree t (ρ.put o.dst v) σ' Q) ∧ XTree alt ρ σ Q
  | .stop, _, _, _ => True
end
section
variable {P : Prg} {c : Cx} {N : Nat} {ρ : Env} {σ : St} {a : Act} {K : AV → St → Prop}
theorem AgainL_mem : ∀ {l : List XOper} {o : XOper}, AgainL P l ρ σ → o ∈ l → Again P o ρ σ
  | _ :: _, _, h, .head _ => h.1
  | _ :: _, _, h, .tail _ hm => AgainL_mem h.2 hm
theorem tmps_none (ht : RepT c N ρ.f a.tmps) {t : Nat} (h : ρ.f t = .tup []) : a.tmps[t]? = none ∨ a.tmps[t]? = some (.tuple #[]) := by
  have h1 := ht.2 t
  rw [h] at h1
  simp only [RepV, RepL] at h1
  obtain ⟨cs, h1, h2⟩ := h1
  rw [Array.getD_eq_getD_getElem?] at h1
  cases hc : a.tmps[t]? with
  | none => exact .inl rfl
  | some v =>
    right
    rw [hc] at h1
    simp only [Option.getD_some] at h1
    rw [h1]
    congr 2
    exact Array.toList_inj.1 (by simpa using h2)
theorem tmps_some (ht : RepT c N ρ.f a.tmps) {t : Nat} {y : Bool} (h : ρ.f t = .b y) : a.tmps[t]? = some (.bool y) := by
  have h1 := ht.2 t
  rw [h] at h1
  simp only [RepV] at h1
  rw [Array.getD_eq_getD_getElem?] at h1
  cases hc : a.tmps[t]? with
  | none => rw [hc] at h1; simp [undef] at h1
  | some v => rw [hc] at h1; simpa using h1
theorem one_sound {ops : Array Oper} {o : Oper} {x : XOper} {i : Nat} {l : Option Nat} {Q : Exit → Act → World → Prop} {K' : Act → World → Prop} (hs : Sim P c) (ha : RepA c N ρ a) (hc : compOper P N ops o = some x) (hi : ops[i]? = some o) (h : XOne P x ρ c.st K)
    (hk : ∀ a' w', OpPost P c N ρ a x.dst K a' w' → K' a' w') : wpOpIn (Fw l) 0 P ops Q i K' a c.w := by
  unfold compOper at hc
  have step : ∀ {K : AV → St → Prop} {Q : Exit → Act → World → Prop}, (∀ t, o.dst = some t → t < N) → XStep P ((compOp P o).getD .bad) ρ.f c.st K → o.wpIn (Fw l) 0 P a c.w (OpPost P c N ρ a o.dst K) Q := by
    intro K Q hd h
    cases hx : compOp P o with
    | none => rw [hx] at h; exact h.elim
    | some x => rw [hx] at h; exact op_sound hs ha hd hx h
  split at hc
  · rename_i hd
    have hd' : ∀ t, o.dst = some t → t < N := by
      intro t ht
      rw [ht] at hd
      simpa using hd
    unfold wpOpIn
    simp only [hi]
    have hab : ∀ f, o.about P c.w a.eval = some f → (Fw l).fn f := fun f _ => Fw_fn l f
    split at hc
    · rename_i hg
      cases hc
      simp only [XOne] at h
      have hw : Region.wanted o (yielded ops a.tmps) = true := by simp [Region.wanted, hg]
      simp only [hw, if_true]
      exact Oper.wpIn_mono hk (step hd' h)
    · rename_i j want hg
      simp only [Option.map_eq_some_iff] at hc
      obtain ⟨d, hjd, hc⟩ := hc
      cases hc
      simp only [XOne] at h
      split at h
      · rename_i y hy
        have hyd : yielded ops a.tmps j = some y := by
          unfold yielded
          rw [hjd]
          simp only [Option.bind_some]
          rw [tmps_some ha.t hy]
        split at h
        · rename_i he
          have hw : Region.wanted o (yielded ops a.tmps) = true := by simp [Region.wanted, hg, hyd, he]
          simp only [hw, if_true]
          exact Oper.wpIn_mono hk (step hd' h)
        · rename_i he
          have hw : Region.wanted o (yielded ops a.tmps) = false := by simp [Region.wanted, hg, hyd, he]
          simp only [hw, Bool.false_eq_true, if_false]
          refine ⟨hab, hk _ _ ⟨c, .tup [], rfl, hs, Ext.refl c, ha.put ?_ hd', h, _, rfl⟩⟩
          simp [RepV, RepL, undef]
      · rename_i hy
        have hyd : yielded ops a.tmps j = none := by
          unfold yielded
          rw [hjd]
          simp only [Option.bind_some]
          rcases tmps_none ha.t hy with h1 | h1 <;> rw [h1]
        have hw : Region.wanted o (yielded ops a.tmps) = false := by simp [Region.wanted, hg, hyd]
        simp only [hw, Bool.false_eq_true, if_false]
        refine ⟨hab, hk _ _ ⟨c, .tup [], rfl, hs, Ext.refl c, ha.put ?_ hd', h, _, rfl⟩⟩
        simp [RepV, RepL, undef]
      · exact h.elim
  · cases hc
theorem wpOpsIn_one {F : Fence} {n : Nat} {ops : Array Oper} {Q : Exit → Act → World → Prop} {i : Nat} {rest : List Nat} {w : World} (h : wpOpIn F n P ops Q i (wpOpsIn F n P ops Q rest) a w) : wpOpsIn F n P ops Q (i :: rest) a w := by
  rw [wpOpsIn_cons]; exact h
theorem compList_get {ops : Array Oper} : ∀ {l : List Oper} {xs : List XOper}, compList P N ops l = some xs → xs.length = l.length ∧ ∀ (i : Nat) (o : Oper), l[i]? = some o → ∃ x, xs[i]? = some x ∧ compOper P N ops o = some x
  | [], xs, h => by simp only [compList, Option.some.injEq] at h; subst h; simp
  | o :: os, xs, h => by
    simp only [compList, Option.bind_eq_some_iff, Option.map_eq_some_iff] at h
    obtain ⟨x, hx, xs', hxs, rfl⟩ := h
    obtain ⟨h1, h2⟩ := compList_get hxs
    refine ⟨by simp [h1], fun i o' hi => ?_⟩
    cases i with
    | zero => simp at hi; subst hi; exact ⟨x, rfl, hx⟩
    | succ i => simp at hi ⊢; exact h2 i o' hi
theorem go_sound {ops : Array Oper} {l : Option Nat} {Q : Exit → Act → World → Prop} {K : Env → St → Prop} : ∀ (os : List Oper) (k : Nat) (xs : List XOper) (c : Cx) (ρ : Env) (a : Act), ops.toList.drop k = os → compList P N ops os = some xs → Sim P c → RepA c N ρ a → XGo P xs ρ c.st K →
    (∀ (c' : Cx) (ρ' : Env) (a' : Act), Sim P c' → Ext c c' → RepA c' N ρ' a' → K ρ' c'.st → Q .normal a' c'.w) → wpOpsIn (Fw l) 0 P ops Q (List.range' k os.length) a c.w := by
  intro os
  induction os with
  | nil =>
    intro k xs c ρ a hk hc hs ha hx hq
    simp only [compList, Option.some.injEq] at hc
    subst hc
    exact hq c ρ a hs (Ext.refl c) ha hx
  | cons o os ih =>
    intro k xs c ρ a hk hc hs ha hx hq
    simp only [compList, Option.bind_eq_some_iff, Option.map_eq_some_iff] at hc
    obtain ⟨x, hxo, xs', hxs, rfl⟩ := hc
    simp only [List.length_cons, List.range'_succ]
    apply wpOpsIn_one
    have hi : ops[k]? = some o := by
      have := congrArg (fun l => l[0]?) hk
      simpa using this
    have hk' : ops.toList.drop (k + 1) = os := by
      have := congrArg List.tail hk
      simpa using this
    simp only [XGo] at hx
    refine one_sound hs ha hxo hi hx ?_
    rintro a' w' ⟨c', v, rfl, h1, h2, h3, h4, _⟩
    exact ih (k + 1) xs' c' _ a' hk' hxs h1 h3 h4 fun c'' ρ'' a'' k1 k2 k3 k4 => hq c'' ρ'' a'' k1 (h2.trans k2) k3 k4
theorem AX.ops {rd : Option (Nat × Nat)} {l : List XOper} {Q : XExit → Env → St → Prop} (h : XGo P l ρ σ (Q .normal)) : AX P N rd (.ops l) ρ σ Q := by
  intro hk hn code hc c a lp h1 h2 h3 h4
  have : ∃ id ops, code = .region id ops false ∧ compList P N ops ops.toList = some l := by
    cases code with
    | region id ops dr =>
      cases dr
      · simp only [comp, Option.map_eq_some_iff] at hc
        obtain ⟨l', hl, he⟩ := hc
        cases he
        exact ⟨id, ops, rfl, hl⟩
      · simp [comp, Option.bind_eq_some_iff, Option.map_eq_some_iff] at hc
    | _ => simp [comp, Option.bind_eq_some_iff, Option.map_eq_some_iff] at hc
  obtain ⟨id, ops, rfl, hl⟩ := this
  subst h1
  apply wpIn_region
  rw [List.range_eq_range', show ops.size = ops.toList.length from (Array.length_toList).symm]
  exact go_sound ops.toList 0 l c ρ a (by simp) hl h2 h3 h fun c' ρ' a' k1 k2 k3 k4 => ⟨c', ρ', .normal, rfl, k1, k2, k3, rfl, k4⟩
end
end Hb
end

section
set_option linter.unusedVariables false
set_option linter.unusedSimpArgs false
set_option linter.constructorNameAsVariable false
set_option autoImplicit false
set_option linter.unusedSimpArgs false
set_option linter.unusedVariables false
namespace Hb
open Go
section
variable {P : Prg} {τ : St} {σ : Store} {ρ ρ' : Nat → AV} {K : AV → St → Prop}
theorem ev_congr {x : XO} (h : ∀ t ∈ x.temps, ρ t = ρ' t) : x.ev ρ = x.ev ρ' := by
  cases x with
  | t n => exact h n (by simp [XO.temps])
  | c v => rfl
  | f n => rfl
theorem evs_congr {l : List XO} (h : ∀ t ∈ l.flatMap XO.temps, ρ t = ρ' t) : l.map (XO.ev ρ) = l.map (XO.ev ρ') :=
  List.map_congr_left fun x hx => ev_congr fun t ht => h t (List.mem_flatMap.2 ⟨x, hx, ht⟩)
theorem fillA_congr : ∀ {ps : List (Nat × Nat × XO)} {z : List AV}, (∀ t ∈ ps.flatMap (fun p => p.2.2.temps), ρ t = ρ' t) → fillA ρ z ps = fillA ρ' z ps
  | [], z, _ => rfl
  | (o, s, x) :: ps, z, h => by
    simp only [fillA]
    rw [ev_congr (ρ := ρ) (ρ' := ρ') (x := x) fun t ht => h t (by simp [ht])]
    congr 1
    funext cs
    split
    · exact fillA_congr fun t ht => h t (by simp only [List.flatMap_cons, List.mem_append]; exact .inr ht)
    · rfl
theorem oev_congr {x : Option XO} (h : ∀ t ∈ oTemps x, ρ t = ρ' t) : x.map (XO.ev ρ) = x.map (XO.ev ρ') := by
  cases x with
  | none => rfl
  | some x => simp only [Option.map_some]; rw [ev_congr h]
theorem xbounds_congr {n : Nat} {lo hi : Option XO} (h1 : ∀ t ∈ oTemps lo, ρ t = ρ' t) (h2 : ∀ t ∈ oTemps hi, ρ t = ρ' t) : xbounds ρ n lo hi = xbounds ρ' n lo hi := by
  unfold xbounds
  cases lo with
  | none => cases hi with
    | none => rfl
    | some y => simp only; rw [ev_congr h2]
  | some x => cases hi with
    | none => simp only; rw [ev_congr h1]
    | some y => simp only; rw [ev_congr h2, ev_congr h1]
theorem xlsl_congr {k : Nat} {lo hi mx : Option XO} {v : AV} (h1 : ∀ t ∈ oTemps lo, ρ t = ρ' t) (h2 : ∀ t ∈ oTemps hi, ρ t = ρ' t) (h3 : ∀ t ∈ oTemps mx, ρ t = ρ' t) : xlsl σ ρ k lo hi mx v = xlsl σ ρ' k lo hi mx v := by
  unfold xlsl
  cases mx with
  | none => cases v <;> simp only [xbounds_congr h1 h2]
  | some m =>
    have e1 := ev_congr (x := m) h3
    have e2 := oev_congr h2
    cases v <;> simp only [e1, e2]
theorem xpure_congr {x : XOp} (h : ∀ t ∈ x.temps, ρ t = ρ' t) : xpure σ ρ x = xpure σ ρ' x := by
  cases x with
  | move x => simp only [xpure]; rw [ev_congr (x := x) h]
  | pick c a b =>
    simp only [XOp.temps, List.mem_append] at h
    simp only [xpure]
    rw [ev_congr (x := c) fun t ht => h t (.inl (.inl ht)), ev_congr (x := a) fun t ht => h t (.inl (.inr ht)), ev_congr (x := b) fun t ht => h t (.inr ht)]
  | build z ps => simp only [xpure]; rw [fillA_congr h]
  | load g n x => simp only [xpure]; rw [ev_congr (x := x) h]
  | nilc x => simp only [xpure]; rw [ev_congr (x := x) h]
  | un op x => simp only [xpure]; rw [ev_congr (x := x) h]
  | conv k x => simp only [xpure]; rw [ev_congr (x := x) h]
  | mki t x => simp only [xpure]; rw [ev_congr (x := x) h]
  | fadr o x => simp only [xpure]; rw [ev_congr (x := x) h]
  | fld g o n x => simp only [xpure]; rw [ev_congr (x := x) h]
  | ext x n => simp only [xpure]; rw [ev_congr (x := x) h]
  | bin op x y =>
    simp only [XOp.temps, List.mem_append] at h
    simp only [xpure]; rw [ev_congr (x := x) fun t ht => h t (.inl ht), ev_congr (x := y) fun t ht => h t (.inr ht)]
  | eq k n x y =>
    simp only [XOp.temps, List.mem_append] at h
    simp only [xpure]; rw [ev_congr (x := x) fun t ht => h t (.inl ht), ev_congr (x := y) fun t ht => h t (.inr ht)]
  | iadr k n x y =>
    simp only [XOp.temps, List.mem_append] at h
    simp only [xpure]; rw [ev_congr (x := x) fun t ht => h t (.inl ht), ev_congr (x := y) fun t ht => h t (.inr ht)]
  | idxs x y =>
    simp only [XOp.temps, List.mem_append] at h
    simp only [xpure]; rw [ev_congr (x := x) fun t ht => h t (.inl ht), ev_congr (x := y) fun t ht => h t (.inr ht)]
  | idxa g k n x y =>
    simp only [XOp.temps, List.mem_append] at h
    simp only [xpure]; rw [ev_congr (x := x) fun t ht => h t (.inl ht), ev_congr (x := y) fun t ht => h t (.inr ht)]
  | mkf f a b =>
    simp only [XOp.temps, List.mem_append] at h
    simp only [xpure]; rw [evs_congr (l := a) fun t ht => h t (.inl ht), evs_congr (l := b) fun t ht => h t (.inr ht)]
  | ssl x lo hi =>
    simp only [XOp.temps, List.mem_append] at h
    simp only [xpure]; rw [ev_congr (x := x) fun t ht => h t (.inl (.inl ht))]
    have : ∀ n, xbounds ρ n lo hi = xbounds ρ' n lo hi := fun n => xbounds_congr (fun t ht => h t (.inl (.inr ht))) (fun t ht => h t (.inr ht))
    simp only [this]
  | lsl k x lo hi mx =>
    simp only [XOp.temps, List.mem_append] at h
    simp only [xpure]; rw [ev_congr (x := x) fun t ht => h t (.inl (.inl (.inl ht)))]
    exact xlsl_congr (fun t ht => h t (.inl (.inl (.inr ht)))) (fun t ht => h t (.inl (.inr ht))) (fun t ht => h t (.inr ht))
  | asl k n x lo hi =>
    simp only [XOp.temps, List.mem_append] at h
    simp only [xpure]; rw [ev_congr (x := x) fun t ht => h t (.inl (.inl ht))]
    have : ∀ n, xbounds ρ n lo hi = xbounds ρ' n lo hi := fun n => xbounds_congr (fun t ht => h t (.inl (.inr ht))) (fun t ht => h t (.inr ht))
    unfold xasl
    simp only [this]
  | mget s z ok x i =>
    simp only [XOp.temps, List.mem_append] at h
    simp only [xpure]; rw [ev_congr (x := x) fun t ht => h t (.inl ht), ev_congr (x := i) fun t ht => h t (.inr ht)]
  | mlen x => simp only [xpure]; rw [ev_congr (x := x) h]
  | entm x => simp only [xpure]; rw [ev_congr (x := x) h]
  | bi b as =>
    have e := evs_congr (l := as) h
    cases b with
    | len s =>
      match as, e with
      | [], _ => rfl
      | [x], e =>
        have e : x.ev ρ = x.ev ρ' := by simpa using e
        simp only [xpure, e]
      | _ :: _ :: _, _ => rfl
    | min =>
      match as, e with
      | [], _ => rfl
      | x :: xs, e =>
        simp only [List.map_cons, List.cons.injEq] at e
        simp only [xpure, e.1, e.2]
    | max =>
      match as, e with
      | [], _ => rfl
      | x :: xs, e =>
        simp only [List.map_cons, List.cons.injEq] at e
        simp only [xpure, e.1, e.2]
    | append T k z => rfl
    | appz T k z => rfl
    | cap =>
      match as, e with
      | [], _ => rfl
      | [x], e =>
        have e : x.ev ρ = x.ev ρ' := by simpa using e
        simp only [xpure, e]
      | _ :: _ :: _, _ => rfl
    | copy k =>
      match as, e with
      | [], _ => rfl
      | [_], _ => rfl
      | [x, y], e =>
        simp only [List.map_cons, List.map_nil, List.cons.injEq, and_true] at e
        simp only [xpure, e.1, e.2]
      | _ :: _ :: _ :: _, _ => rfl
    | sdat k =>
      match as, e with
      | [], _ => rfl
      | [x], e =>
        have e : x.ev ρ = x.ev ρ' := by simpa using e
        simp only [xpure, e]
      | _ :: _ :: _, _ => rfl
    | ustr k => rfl
  | _ => rfl
theorem XStep_congr {x : XOp} (h : ∀ t ∈ x.temps, ρ t = ρ' t) : XStep P x ρ τ K = XStep P x ρ' τ K := by
  cases x with
  | alloc => rfl
  | box T k x => simp only [XStep]; rw [ev_congr (x := x) h]
  | lit T k n z ps => simp only [XStep]; rw [fillA_congr h]
  | store n a x =>
    simp only [XOp.temps, List.mem_append] at h
    simp only [XStep]; rw [ev_congr (x := a) fun t ht => h t (.inl ht), ev_congr (x := x) fun t ht => h t (.inr ht)]
  | mksl T k z x y =>
    simp only [XOp.temps, List.mem_append] at h
    simp only [XStep]; rw [ev_congr (x := x) fun t ht => h t (.inl ht), ev_congr (x := y) fun t ht => h t (.inr ht)]
  | conv k x =>
    have e := xpure_congr (σ := τ.1) h
    cases k with
    | s2b T => simp only [XStep]; rw [ev_congr (x := x) h]
    | int k => simp only [XStep, e]
    | same => simp only [XStep, e]
    | b2s => simp only [XStep, e]
    | tou => simp only [XStep, e]
    | fru u n => simp only [XStep, e]
    | tas u n => simp only [XStep, e]
  | call f as =>
    simp only [XOp.temps, List.mem_append] at h
    simp only [XStep]; rw [ev_congr (x := f) fun t ht => h t (.inl ht), evs_congr (l := as) fun t ht => h t (.inr ht)]
  | bi b as =>
    have e1 := xpure_congr (σ := τ.1) h
    cases b with
    | append T k z =>
      match as, h, e1 with
      | [x, y], h, _ =>
        simp only [XOp.temps, List.flatMap_cons, List.flatMap_nil, List.append_nil, List.mem_append] at h
        simp only [XStep]; rw [ev_congr (x := x) fun t ht => h t (.inl ht), ev_congr (x := y) fun t ht => h t (.inr ht)]
      | [], _, _ => rfl
      | [_], _, _ => rfl
      | _ :: _ :: _ :: _, _, _ => rfl
    | appz T k z =>
      match as, h, e1 with
      | [x, y], h, _ =>
        simp only [XOp.temps, List.flatMap_cons, List.flatMap_nil, List.append_nil, List.mem_append] at h
        simp only [XStep]; rw [ev_congr (x := x) fun t ht => h t (.inl ht), ev_congr (x := y) fun t ht => h t (.inr ht)]
      | [], _, _ => rfl
      | [_], _, _ => rfl
      | _ :: _ :: _ :: _, _, _ => rfl
    | len s => simp only [XStep, e1]
    | min => simp only [XStep, e1]
    | max => simp only [XStep, e1]
    | copy k => simp only [XStep, e1]
    | cap => simp only [XStep, e1]
    | sdat k => simp only [XStep, e1]
    | ustr k =>
      match as, h, e1 with
      | [x, y], h, _ =>
        simp only [XOp.temps, List.flatMap_cons, List.flatMap_nil, List.append_nil, List.mem_append] at h
        simp only [XStep]; rw [ev_congr (x := x) fun t ht => h t (.inl ht), ev_congr (x := y) fun t ht => h t (.inr ht)]
      | [], _, _ => rfl
      | [_], _, _ => rfl
      | _ :: _ :: _ :: _, _, _ => rfl
  | rng x => simp only [XStep]; rw [ev_congr (x := x) h]
  | next x => simp only [XStep]; rw [ev_congr (x := x) h]
  | rngm x => simp only [XStep]; rw [ev_congr (x := x) h]
  | nextm x => simp only [XStep]; rw [ev_congr (x := x) h]
  | mkm => rfl
  | clr k z x => simp only [XStep]; rw [ev_congr (x := x) h]
  | cpy k x y =>
    simp only [XOp.temps, List.mem_append] at h
    simp only [XStep]; rw [ev_congr (x := x) fun t ht => h t (.inl ht), ev_congr (x := y) fun t ht => h t (.inr ht)]
  | mks x => simp only [XStep]; rw [ev_congr (x := x) h]
  | mdel s x i =>
    simp only [XOp.temps, List.mem_append] at h
    simp only [XStep]; rw [ev_congr (x := x) fun t ht => h t (.inl ht), ev_congr (x := i) fun t ht => h t (.inr ht)]
  | mset s x i v =>
    simp only [XOp.temps, List.mem_append] at h
    simp only [XStep]; rw [ev_congr (x := x) fun t ht => h t (.inl (.inl ht)), ev_congr (x := i) fun t ht => h t (.inl (.inr ht)), ev_congr (x := v) fun t ht => h t (.inr ht)]
  | _ => simp only [XStep]; rw [xpure_congr h]
def xval (σ : Store) (ρ : Nat → AV) : XOp → Option AV
  | .lit _ k n z ps => (fillA ρ z ps).map fun cs => .sl k n cs
  | x => xpure σ ρ x
theorem XStep_val {x : XOp} (h : x.isAct = false) : XStep P x ρ τ K ↔ ∃ v, xval τ.1 ρ x = some v ∧ K v τ := by
  have gen : (match xpure τ.1 ρ x with | some v => K v τ | none => False) ↔ ∃ v, xpure τ.1 ρ x = some v ∧ K v τ := by
    cases xpure τ.1 ρ x <;> simp
  cases x <;> try (first | exact gen | (simp [XOp.isAct] at h; done))
  case conv k x =>
    cases k <;> first | exact gen | (simp [XOp.isAct] at h; done)
  case bi b as =>
    cases b <;> first | exact gen | (simp [XOp.isAct] at h; done)
theorem xval_stable {x : XOp} {σ' : Store} (h : x.isAct = false) (hr : x.reads = false) : xval σ ρ x = xval σ' ρ x := by
  cases x <;> first | rfl | (simp [XOp.reads] at hr; done) | (simp [XOp.isAct] at h; done) | skip
  case conv k x => cases k <;> first | rfl | (simp [XOp.reads] at hr; done) | (simp [XOp.isAct] at h; done)
  case eq k ng x y =>
    cases k <;> first | rfl | (simp [XOp.reads] at hr; done) | skip
    · have e : ∀ (n : Nat) (v w : AV), xeqS σ (.ints n) v w = xeqS σ' (.ints n) v w := by intro n v w; cases v <;> first | rfl | (cases w <;> rfl)
      simp only [xval, xpure, e]
    · have e : ∀ (l : List Nat) (v w : AV), xeqS σ (.ifi l) v w = xeqS σ' (.ifi l) v w := by intro n v w; cases v <;> first | rfl | (cases w <;> rfl)
      simp only [xval, xpure, e]
  case bi b as => rcases as with _ | ⟨x, _ | ⟨y, l⟩⟩ <;> cases b <;> first | rfl | (simp [XOp.isAct] at h; done)
theorem xval_congr {x : XOp} (h : ∀ t ∈ x.temps, ρ t = ρ' t) : xval σ ρ x = xval σ ρ' x := by
  by_cases hl : ∃ T k n z ps, x = .lit T k n z ps
  · obtain ⟨T, k, n, z, ps, rfl⟩ := hl
    simp only [xval]; rw [fillA_congr h]
  · have e : ∀ ρ, xval σ ρ x = xpure σ ρ x := by
      intro ρ
      cases x <;> first | rfl | exact absurd ⟨_, _, _, _, _, rfl⟩ hl
    rw [e, e]; exact xpure_congr h
theorem XOne_congr {o : XOper} {ρ ρ' : Env} (h : ∀ t ∈ o.temps, ρ.f t = ρ'.f t) : XOne P o ρ τ K = XOne P o ρ' τ K := by
  unfold XOne
  cases hg : o.guard with
  | none => simp only; exact XStep_congr fun t ht => h t (by simp [XOper.temps, ht])
  | some p =>
    obtain ⟨t0, want⟩ := p
    simp only
    rw [h t0 (by simp [XOper.temps, hg])]
    have : XStep P o.op ρ.f τ K = XStep P o.op ρ'.f τ K := XStep_congr fun t ht => h t (by simp [XOper.temps, ht])
    rw [this]
def oneVal (o : XOper) (ρ : Env) (σ : Store) : Option AV :=
  match o.guard with
  | none => xval σ ρ.f o.op
  | some (t, want) => match ρ.f t with
    | .b y => if y = want then xval σ ρ.f o.op else some (.tup [])
    | .tup [] => some (.tup [])
    | _ => none
theorem XOne_val {o : XOper} {ρ : Env} (h : o.op.isAct = false) : XOne P o ρ τ K ↔ ∃ v, oneVal o ρ τ.1 = some v ∧ K v τ := by
  unfold XOne oneVal
  cases o.guard with
  | none => exact XStep_val h
  | some p =>
    obtain ⟨t, want⟩ := p
    simp only
    have hv := XStep_val (P := P) (τ := τ) (ρ := ρ.f) (K := K) h
    generalize ρ.f t = z
    cases z with
    | b y =>
      by_cases hy : y = want
      · simp only [hy, if_true]; exact hv
      · simp [hy]
    | tup l => cases l <;> simp
    | _ => simp
theorem oneVal_congr {o : XOper} {ρ ρ' : Env} (h : ∀ t ∈ o.temps, ρ.f t = ρ'.f t) : oneVal o ρ σ = oneVal o ρ' σ := by
  unfold oneVal
  cases hg : o.guard with
  | none => simp only; exact xval_congr fun t ht => h t (by simp [XOper.temps, ht])
  | some p =>
    obtain ⟨t0, want⟩ := p
    simp only
    rw [h t0 (by simp [XOper.temps, hg])]
    have : xval σ ρ.f o.op = xval σ ρ'.f o.op := xval_congr fun t ht => h t (by simp [XOper.temps, ht])
    rw [this]
theorem oneVal_stable {o : XOper} {ρ : Env} {σ' : Store} (h : o.op.isAct = false) (hr : o.op.reads = false) : oneVal o ρ σ = oneVal o ρ σ' := by
  unfold oneVal
  rw [xval_stable (σ := σ) (σ' := σ') h hr]
theorem Again_iff {o : XOper} {ρ : Env} (h : o.op.isAct = false) : Again P o ρ τ ↔ ∃ v, oneVal o ρ τ.1 = some v ∧ ∀ d, o.dst = some d → v = ρ.f d := by
  unfold Again
  rw [XOne_val h]
  constructor
  · rintro ⟨v, h1, _, h2⟩; exact ⟨v, h1, h2⟩
  · rintro ⟨v, h1, h2⟩; exact ⟨v, h1, rfl, h2⟩
theorem put_f {ρ : Env} {d : Option Nat} {v : AV} {t : Nat} : (ρ.put d v).f t = if d = some t then v else ρ.f t := by
  cases d with
  | none => simp [Env.put]
  | some d =>
    simp only [Env.put, upd]
    by_cases h : t = d
    · simp [h]
    · simp [h, show ¬ d = t from fun e => h e.symm]
end
end Hb
end

section
set_option linter.unusedVariables false
set_option linter.unusedSimpArgs false
set_option linter.constructorNameAsVariable false
set_option autoImplicit false
set_option linter.unusedSimpArgs false
set_option linter.unusedVariables false
namespace Hb
open Go
section
variable {P : Prg} {N : Nat} {ops : Array Oper} {xs : List XOper}
theorem hasV_cons {e : VE} {V : List VE} {k : Nat} : hasV (e :: V) k = (e.i == k || hasV V k) := rfl
theorem hasV_mem {V : List VE} {k : Nat} (h : hasV V k = true) : ∃ e ∈ V, e.i = k := by
  simp only [hasV, List.any_eq_true, beq_iff_eq] at h; exact h
theorem hasV_of {V : List VE} {e : VE} (h : e ∈ V) : hasV V e.i = true := by
  simp only [hasV, List.any_eq_true, beq_iff_eq]; exact ⟨e, h, rfl⟩
inductive WfV (P : Prg) (N : Nat) (ops : Array Oper) : List VE → Prop
  | nil : WfV P N ops []
  | cons {V : List VE} {i : Nat} {x : XOper} {m : Nat} {o : Oper} {act : Bool} : WfV P N ops V → ops[i]? = some o → compOper P N ops o = some x → hasV V i = false → (∀ k ∈ afterOf o, hasV V k = true) →
      m = clos V (afterOf o) → insOk V x m act = true → (act = false → x.op.isAct = false) → WfV P N ops (⟨i, x, m, act⟩ :: V)
def Lst (L : Array Bool) (k : Nat) : Prop := L.getD k false = true
theorem isC_temps {x : XO} (h : x.isC = true) : x.temps = [] := by cases x <;> first | rfl | cases h
theorem lateX_act {x : XOp} {l : Nat × List AV × Option (Nat × Nat)} (h : x.lateX = some l) : x.isAct = true := by
  cases x <;> first | rfl | (cases h; done)
theorem consts_temps {ps : List (Nat × Nat × XO)} (h : ps.all (fun p => p.2.2.isC) = true) : ps.flatMap (fun p => p.2.2.temps) = [] := by
  rw [List.flatMap_eq_nil_iff]
  intro p hp
  exact isC_temps (List.all_eq_true.1 h p hp)
theorem lateX_temps {x : XOp} {l : Nat × List AV × Option (Nat × Nat)} (h : x.lateX = some l) : x.temps = [] := by
  cases x <;> first | rfl | (cases h; done) | skip
  rename_i T k n z ps
  simp only [XOp.lateX] at h
  split at h
  · rename_i hc
    exact consts_temps hc
  · cases h
def lateA (r st : Nat) (z : List AV) : Option (Nat × Nat) → AV
  | none => .p r st z.length 0 0
  | some (n, k) => .gr r st 0 n k
def lateU (b : Nat) : Option (Nat × Nat) → Value
  | none => .pointer (some ⟨b, 0, none⟩)
  | some (n, _) => .slice (some ⟨b, 0, none⟩) n n
def LateZ (P : Prg) (z : List AV) (sl : Option (Nat × Nat)) (arr : Array Value) : Prop :=
  (∀ c : Cx, Sim P c → RepL c z arr.toList ∧ ∀ v ∈ arr.toList, v.oneCell' = true) ∧ ∀ n k, sl = some (n, k) → z.length = n * k ∧ 0 < n
theorem lateX_step {x : XOp} {T : Nat} {z : List AV} {sl : Option (Nat × Nat)} (h : x.lateX = some (T, z, sl)) {ρ : Nat → AV} {σ : St} {K : AV → St → Prop} (hx : XStep P x ρ σ K) :
    K (lateA σ.1.length σ.2 z sl) (σ.1 ++ [some (.cells σ.2 false T 0 z)], σ.2 + 1) := by
  cases x <;> try (cases h; done)
  case alloc T' z' =>
    cases h
    exact hx
  case lit T' k n z' ps =>
    simp only [XOp.lateX] at h
    split at h
    · rename_i hc
      split at h
      · rename_i cs hf
        split at h
        · cases h
          simp only [XStep] at hx
          rw [fillA_congr (ρ' := fun _ => .u) (by rw [consts_temps hc]; intro t ht; cases ht), hf] at hx
          exact hx
        · cases h
      · cases h
    · cases h
structure EE where
  k : Nat
  b : Nat
  d : Nat
  T : Nat
  z : List AV
  sl : Option (Nat × Nat)
  x : XOp
structure LOk (ops : Array Oper) (V : List VE) (E : List EE) (L : Array Bool) : Prop where
  size : L.size = ops.size
  inV : ∀ k, Lst L k → hasV V k = true ∨ ∃ e ∈ E, e.k = k
  closed : ∀ k o, Lst L k → ops[k]? = some o → ∀ j ∈ afterOf o, Lst L j
  act : ∀ e ∈ V, e.act = true → Lst L e.i
theorem maskOf_mem : ∀ {V : List VE} {k : Nat}, hasV V k = true → ∃ e ∈ V, e.i = k ∧ maskOf V k = e.m
  | e :: V, k, h => by
    by_cases he : e.i = k
    · exact ⟨e, by simp, he, by simp [maskOf, he]⟩
    · rw [hasV_cons] at h
      have h : hasV V k = true := by simpa [he] using h
      obtain ⟨e', h1, h2, h3⟩ := maskOf_mem h
      exact ⟨e', by simp [h1], h2, by simp [maskOf, he, h3]⟩
theorem testBit_clos {V : List VE} : ∀ {l : List Nat} {t : Nat}, (clos V l).testBit t = true → t ∈ l ∨ ∃ k ∈ l, (maskOf V k).testBit t = true
  | [], t, h => by simp [clos] at h
  | k :: ks, t, h => by
    simp only [clos, Nat.testBit_or, Bool.or_eq_true] at h
    rcases h with (h | h) | h
    · left
      rw [Nat.one_shiftLeft, Nat.testBit_two_pow] at h
      simp only [decide_eq_true_eq] at h
      simp [h]
    · exact .inr ⟨k, by simp, h⟩
    · rcases testBit_clos h with h | ⟨j, h1, h2⟩
      · exact .inl (by simp [h])
      · exact .inr ⟨j, by simp [h1], h2⟩
theorem WfV.get {V : List VE} (hw : WfV P N ops V) : ∀ e ∈ V, ∃ o, ops[e.i]? = some o ∧ compOper P N ops o = some e.x ∧ (∀ k ∈ afterOf o, hasV V k = true) ∧ (e.act = false → e.x.op.isAct = false) := by
  induction hw with
  | nil => intro e he; cases he
  | cons hw ho hx hni haf hm hok hact ih =>
    intro e he
    rcases List.mem_cons.1 he with rfl | he
    · exact ⟨_, ho, hx, fun k hk => by rw [hasV_cons, haf k hk]; simp, hact⟩
    · obtain ⟨o, h1, h2, h3, h4⟩ := ih e he
      exact ⟨o, h1, h2, fun k hk => by rw [hasV_cons, h3 k hk]; simp, h4⟩
theorem mask_listed {V : List VE} (hw : WfV P N ops V) {L : Array Bool} (hcl : ∀ k o, Lst L k → ops[k]? = some o → ∀ j ∈ afterOf o, Lst L j) :
    ∀ e ∈ V, ∀ o, ops[e.i]? = some o → (∀ k ∈ afterOf o, Lst L k) → ∀ t, e.m.testBit t = true → Lst L t := by
  induction hw with
  | nil => intro e he; cases he
  | @cons V i x m o act hw ho hx hni haf hm hok hact ih =>
    intro e he o' ho' hal t ht
    rcases List.mem_cons.1 he with rfl | he
    · simp only at ho' ht
      rw [ho] at ho'
      cases ho'
      subst hm
      rcases testBit_clos ht with h | ⟨k, h1, h2⟩
      · exact hal t h
      · obtain ⟨e', e1, e2, e3⟩ := maskOf_mem (haf k h1)
        rw [e3] at h2
        obtain ⟨o2, ho2, _⟩ := hw.get e' e1
        exact ih e' e1 o2 ho2 (hcl k o2 (hal k h1) (e2 ▸ ho2)) t h2
    · exact ih e he o' ho' hal t ht
theorem clos_listed {V : List VE} {E : List EE} (hw : WfV P N ops V) {L : Array Bool} (hl : LOk ops V E L) {l : List Nat} (hv : ∀ k ∈ l, hasV V k = true) (hal : ∀ k ∈ l, Lst L k) {t : Nat} (ht : (clos V l).testBit t = true) : Lst L t := by
  rcases testBit_clos ht with h | ⟨k, h1, h2⟩
  · exact hal t h
  · obtain ⟨e, e1, e2, e3⟩ := maskOf_mem (hv k h1)
    rw [e3] at h2
    obtain ⟨o, ho, _⟩ := hw.get e e1
    exact mask_listed hw hl.closed e e1 o ho (hl.closed k o (hal k h1) (e2 ▸ ho)) t h2
def maskE (V : List VE) (L : Array Bool) (ρ : Env) : Env :=
  ⟨fun t => if V.any (fun e => !L.getD e.i false && e.x.dst == some t) then .u else ρ.f t, ρ.d⟩
theorem maskE_f {V : List VE} {L : Array Bool} {ρ : Env} {t : Nat} (h : ∀ e ∈ V, ¬ Lst L e.i → e.x.dst ≠ some t) : (maskE V L ρ).f t = ρ.f t := by
  unfold maskE
  have : (V.any fun e => !L.getD e.i false && e.x.dst == some t) = false := by
    rw [Bool.eq_false_iff]
    intro hh
    simp only [List.any_eq_true, Bool.and_eq_true, Bool.not_eq_true', beq_iff_eq] at hh
    obtain ⟨e, h1, h2, h3⟩ := hh
    exact h e h1 (by unfold Lst; rw [h2]; simp) h3
  simp only [this, Bool.false_eq_true, if_false]
theorem maskE_u {V : List VE} {L : Array Bool} {ρ : Env} {t : Nat} {e : VE} (h1 : e ∈ V) (h2 : ¬ Lst L e.i) (h3 : e.x.dst = some t) : (maskE V L ρ).f t = .u := by
  unfold maskE
  have : (V.any fun e => !L.getD e.i false && e.x.dst == some t) = true := by
    simp only [List.any_eq_true, Bool.and_eq_true, Bool.not_eq_true', beq_iff_eq]
    exact ⟨e, h1, by unfold Lst at h2; simpa using h2, h3⟩
  simp only [this, if_true]
def maskX (E : List EE) (V : List VE) (L : Array Bool) (ρ : Env) : Env :=
  ⟨fun t => if E.any (fun e => e.d == t) then .u else (maskE V L ρ).f t, ρ.d⟩
theorem maskX_f {E : List EE} {V : List VE} {L : Array Bool} {ρ : Env} {t : Nat} (h : ∀ e ∈ V, ¬ Lst L e.i → e.x.dst ≠ some t) (hE : ∀ e ∈ E, e.d ≠ t) : (maskX E V L ρ).f t = ρ.f t := by
  unfold maskX
  have : (E.any fun e => e.d == t) = false := by
    rw [Bool.eq_false_iff]
    intro hh
    simp only [List.any_eq_true, beq_iff_eq] at hh
    obtain ⟨e, h1, h2⟩ := hh
    exact hE e h1 h2
  simp only [this, Bool.false_eq_true, if_false]
  exact maskE_f h
theorem maskX_e {E : List EE} {V : List VE} {L : Array Bool} {ρ : Env} {t : Nat} (h : ∃ e ∈ E, e.d = t) : (maskX E V L ρ).f t = .u := by
  unfold maskX
  have : (E.any fun e => e.d == t) = true := by
    simp only [List.any_eq_true, beq_iff_eq]; exact h
  simp only [this, if_true]
theorem maskX_n {E : List EE} {V : List VE} {L : Array Bool} {ρ : Env} {t : Nat} (h : ¬ ∃ e ∈ E, e.d = t) : (maskX E V L ρ).f t = (maskE V L ρ).f t := by
  unfold maskX
  have : (E.any fun e => e.d == t) = false := by
    rw [Bool.eq_false_iff]
    intro hh
    simp only [List.any_eq_true, beq_iff_eq] at hh
    exact h hh
  simp only [this, Bool.false_eq_true, if_false]
structure EAt (P : Prg) (N : Nat) (ops : Array Oper) (V : List VE) (L : Array Bool) (a : Act) (c : Cx) (s0 : Nat) (e : EE) : Prop where
  nv : hasV V e.k = false
  ls : Lst L e.k
  op : ∃ o, ops[e.k]? = some o ∧ compOper P N ops o = some ⟨some e.d, e.x, none⟩ ∧ ∀ k ∈ afterOf o, hasV V k = true
  free : ∀ v ∈ V, v.x.dst ≠ some e.d ∧ e.d ∉ v.x.temps
  tmp : a.tmps.getD e.d undef = lateU e.b e.sl
  heap : ∃ arr, c.w.heap[e.b]? = some (.cells arr e.T) ∧ LateZ P e.z e.sl arr
  own : ¬ c.own e.b
  n0 : ¬ c.n0 e.b
  s0 : s0 ≤ e.b
  lx : e.x.lateX = some (e.T, e.z, e.sl)
structure EOk (P : Prg) (N : Nat) (ops : Array Oper) (V : List VE) (L : Array Bool) (a : Act) (c : Cx) (s0 : Nat) (E : List EE) : Prop where
  one : ∀ e ∈ E, EAt P N ops V L a c s0 e
  dis : ∀ e ∈ E, ∀ e' ∈ E, (e.k = e'.k ∨ e.b = e'.b ∨ e.d = e'.d) → e = e'
structure Inv (P : Prg) (N : Nat) (ops : Array Oper) (V : List VE) (L : Array Bool) (E : List EE) (s0 : Nat) (ρ : Env) (c : Cx) (a : Act) : Prop where
  wf : WfV P N ops V
  l : LOk ops V E L
  again : ∀ e ∈ V, ¬ Lst L e.i → Again P e.x ρ c.st
  rep : RepA c N (maskX E V L ρ) a
  sim : Sim P c
  e : EOk P N ops V L a c s0 E
theorem insOk_spec {V : List VE} {x : XOper} {m : Nat} {act : Bool} (h : insOk V x m act = true) :
    (∀ e ∈ V, ∀ d, e.x.dst = some d → d ∈ x.temps → m.testBit e.i = true) ∧
    (∀ d, x.dst = some d → ∀ e ∈ V, e.x.dst ≠ some d ∧ (d ∈ e.x.temps → act = true ∧ m.testBit e.i = true)) ∧
    (act = false → ∀ d, x.dst = some d → d ∉ x.temps) := by
  simp only [insOk, Bool.and_eq_true, List.all_eq_true] at h
  obtain ⟨h1, h2⟩ := h
  refine ⟨fun e he d hd ht => ?_, fun d hd e he => ?_, fun ha d hd => ?_⟩
  · have := (h1 e he).1
    rw [hd] at this
    simpa [ht] using this
  · have := (h1 e he).2
    rw [hd] at this
    simp only [Bool.and_eq_true, bne_iff_ne, ne_eq, Bool.or_eq_true, Bool.not_eq_true'] at this
    refine ⟨this.1, fun ht => ?_⟩
    rcases this.2 with h | h
    · simp [ht] at h
    · exact h
  · rw [ha, hd] at h2
    simpa using h2
theorem WfV.distinct {V : List VE} (hw : WfV P N ops V) : ∀ e ∈ V, ∀ e' ∈ V, ∀ d, e.x.dst = some d → e'.x.dst = some d → e = e' := by
  induction hw with
  | nil => intro e he; cases he
  | @cons V i x m o act hw ho hx hni haf hm hok hact ih =>
    intro e he e' he' d hd hd'
    obtain ⟨_, h2, _⟩ := insOk_spec hok
    rcases List.mem_cons.1 he with rfl | he
    · rcases List.mem_cons.1 he' with rfl | he'
      · rfl
      · exact absurd hd' (h2 d hd e' he').1
    · rcases List.mem_cons.1 he' with rfl | he'
      · exact absurd hd (h2 d hd' e he).1
      · exact ih e he e' he' d hd hd'
theorem WfV.index {V : List VE} (hw : WfV P N ops V) : ∀ e ∈ V, ∀ e' ∈ V, e.i = e'.i → e = e' := by
  induction hw with
  | nil => intro e he; cases he
  | @cons V i x m o act hw ho hx hni haf hm hok hact ih =>
    intro e he e' he' h
    rcases List.mem_cons.1 he with rfl | he
    · rcases List.mem_cons.1 he' with rfl | he'
      · rfl
      · exfalso; have := hasV_of he'; rw [← h, hni] at this; cases this
    · rcases List.mem_cons.1 he' with rfl | he'
      · exfalso; have := hasV_of he; rw [h, hni] at this; cases this
      · exact ih e he e' he' h
theorem WfV.looks {V : List VE} {E : List EE} (hw : WfV P N ops V) {L : Array Bool} (hl : LOk ops V E L) : ∀ {V' : List VE}, WfV P N ops V' → (∀ e ∈ V', e ∈ V) → ∀ e ∈ V', (∀ o, ops[e.i]? = some o → ∀ k ∈ afterOf o, Lst L k) →
    ∀ e' ∈ V', ¬ Lst L e'.i → ∀ d, e'.x.dst = some d → d ∉ e.x.temps := by
  intro V' hw'
  induction hw' with
  | nil => intro _ e he; cases he
  | @cons V' i x m o act hw' ho hx hni haf hm hok hact ih =>
    intro hsub e he hal e' he' hnl d hd ht
    obtain ⟨h1, h2, h3⟩ := insOk_spec hok
    have hsub' : ∀ e ∈ V', e ∈ V := fun e he => hsub e (by simp [he])
    rcases List.mem_cons.1 he with rfl | he
    · rcases List.mem_cons.1 he' with rfl | he'
      · cases act with
        | false => exact h3 rfl d hd ht
        | true => exact hnl (hl.act _ (hsub _ (by simp)) rfl)
      · have hb := h1 e' he' d hd ht
        exact hnl (mask_listed hw hl.closed ⟨i, x, m, act⟩ (hsub _ he) o ho (hal o ho) e'.i hb)
    · rcases List.mem_cons.1 he' with rfl | he'
      · obtain ⟨_, hq⟩ := h2 d hd e he
        obtain ⟨ha, hb⟩ := hq ht
        exact hnl (hl.act _ (hsub _ (by simp)) ha)
      · exact ih hsub' e he hal e' he' hnl d hd ht
theorem mem_afterOf {o : Oper} {k : Nat} : k ∈ afterOf o ↔ ∃ e ∈ o.after, Region.binds .any e = true ∧ e.on = k := by
  simp [afterOf, and_assoc]
theorem ready_spec {L : Array Bool} {i : Nat} : i ∈ Region.ready .any ops L ↔ L.getD i true = false ∧ ∃ o, ops[i]? = some o ∧ ∀ k ∈ afterOf o, Lst L k := by
  rw [mem_ready]
  constructor
  · rintro ⟨h1, o, h2, h3⟩
    refine ⟨h1, o, h2, fun k hk => ?_⟩
    obtain ⟨e, e1, e2, rfl⟩ := mem_afterOf.1 hk
    exact h3 e e1 e2
  · rintro ⟨h1, o, h2, h3⟩
    exact ⟨h1, o, h2, fun e e1 e2 => h3 e.on (mem_afterOf.2 ⟨e, e1, e2, rfl⟩)⟩
theorem readyV_spec {V : List VE} {i : Nat} : i ∈ readyV ops V ↔ hasV V i = false ∧ ∃ o, ops[i]? = some o ∧ ∀ k ∈ afterOf o, hasV V k = true := by
  unfold readyV
  rw [List.mem_filter, List.mem_range]
  cases ho : ops[i]? with
  | none => simp
  | some o =>
    have hlt : i < ops.size := (Array.getElem?_eq_some_iff.1 ho).1
    simp [hlt]
theorem lst_set {L : Array Bool} {i k : Nat} (hi : i < L.size) : Lst (L.setIfInBounds i true) k ↔ k = i ∨ Lst L k := by
  unfold Lst
  by_cases h : k = i
  · subst h; simp [hi]
  · rw [getD_set_ne false (fun e => h e.symm)]; simp [h]
theorem not_lst {L : Array Bool} {i : Nat} (hi : i < L.size) : L.getD i true = false ↔ ¬ Lst L i := by
  unfold Lst
  simp [hi]
def unl (n : Nat) (L : Array Bool) : Nat := ((List.range n).filter fun i => !L.getD i false).length
theorem unl_set {n i : Nat} {L : Array Bool} (hn : L.size = n) (hi : i < n) (h : ¬ Lst L i) : unl n (L.setIfInBounds i true) < unl n L := by
  unfold unl
  have hsub : ∀ (l : List Nat), l.Nodup → i ∈ l → ((l.filter fun k => !(L.setIfInBounds i true).getD k false).length < (l.filter fun k => !L.getD k false).length) := by
    intro l
    induction l with
    | nil => intro _ h; cases h
    | cons k l ih =>
      intro hnd hm
      have hne : ∀ (l : List Nat), i ∉ l → (l.filter fun k => !(L.setIfInBounds i true).getD k false) = l.filter fun k => !L.getD k false := by
        intro l hl
        apply List.filter_congr
        intro k hk
        rw [getD_set_ne false (fun e : i = k => hl (by rw [e]; exact hk))]
      by_cases hki : k = i
      · subst hki
        have hnl : k ∉ l := (List.nodup_cons.1 hnd).1
        have e1 : (L.setIfInBounds k true).getD k false = true := by simp [hn, hi]
        have e2 : L.getD k false = false := by unfold Lst at h; simpa using h
        rw [List.filter_cons, List.filter_cons, hne l hnl]
        simp only [e1, e2, Bool.not_true, Bool.not_false, Bool.false_eq_true, if_false, if_true, List.length_cons]
        omega
      · have hm' : i ∈ l := by
          rcases List.mem_cons.1 hm with h | h
          · exact absurd h.symm hki
          · exact h
        have := ih (List.nodup_cons.1 hnd).2 hm'
        rw [List.filter_cons, List.filter_cons, getD_set_ne false (fun e => hki e.symm)]
        split
        · simp only [List.length_cons]; omega
        · exact this
  exact hsub _ List.nodup_range (by simpa using hi)
theorem unl_zero {n : Nat} {L : Array Bool} (h : unl n L = 0) {i : Nat} (hi : i < n) : Lst L i := by
  unfold unl at h
  have h := List.eq_nil_of_length_eq_zero h
  rw [List.filter_eq_nil_iff] at h
  have := h i (by simpa using hi)
  unfold Lst
  simpa using this
end
end Hb
end
