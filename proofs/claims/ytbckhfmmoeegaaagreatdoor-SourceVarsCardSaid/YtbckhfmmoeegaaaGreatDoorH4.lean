/- A layer for programs of small data: values, stores, code, and an evaluator of code that the kernel runs; part 4. -/
import Derived.Test.YtbckhfmmoeegaaaGreatDoorH3

section
set_option linter.unusedVariables false
set_option linter.unusedSimpArgs false
set_option linter.constructorNameAsVariable false
set_option autoImplicit false
set_option linter.unusedSimpArgs false
set_option linter.unusedVariables false
namespace Hb
open Go

/-! ## Maps: what changes them -/

section
variable {P : Prg} {c : Cx} {N : Nat} {ρ : Nat → AV} {a : Act} {K : AV → St → Prop}

theorem RepE.filter {p : Nat → Bool} : ∀ {es : List (AV × AV × Nat)} {l : List MapEntry}, RepE c es l → RepE c (es.filter fun e => p e.2.2) (l.filter fun x => p x.born)
  | [], l, h => by simp only [RepE] at h; subst h; simp [RepE]
  | (k, v, b) :: es, l, h => by
    simp only [RepE] at h
    obtain ⟨e, l', rfl, h1, h2, h3, h4⟩ := h
    subst h3
    have ih := RepE.filter (p := p) h4
    simp only [List.filter_cons]
    cases p e.born with
    | true => simp only [if_true, RepE]; exact ⟨e, _, rfl, h1, h2, rfl, ih⟩
    | false => simpa using ih

theorem RepE.append : ∀ {es es' : List (AV × AV × Nat)} {l l' : List MapEntry}, RepE c es l → RepE c es' l' → RepE c (es ++ es') (l ++ l')
  | [], es', l, l', h, h' => by simp only [RepE] at h; subst h; simpa using h'
  | (k, v, b) :: es, es', l, l', h, h' => by
    simp only [RepE] at h
    obtain ⟨e, l1, rfl, h1, h2, h3, h4⟩ := h
    simp only [List.cons_append, RepE]
    exact ⟨e, l1 ++ l', rfl, h1, h2, h3, RepE.append h4 h'⟩

theorem RepE.get : ∀ {es : List (AV × AV × Nat)} {l : List MapEntry} {j : Nat} {x : MapEntry}, RepE c es l → l[j]? = some x → ∃ e, es[j]? = some e ∧ RepV c e.1 x.key ∧ RepV c e.2.1 x.val ∧ x.born = e.2.2
  | [], l, j, x, h, hj => by simp only [RepE] at h; subst h; simp at hj
  | (k, v, b) :: es, l, j, x, h, hj => by
    simp only [RepE] at h
    obtain ⟨e, l1, rfl, h1, h2, h3, h4⟩ := h
    cases j with
    | zero => simp at hj; subst hj; exact ⟨(k, v, b), rfl, h1, h2, h3⟩
    | succ j => simp at hj; obtain ⟨e', q1, q2⟩ := RepE.get h4 hj; exact ⟨e', by simpa using q1, q2⟩

theorem RepE.isEmpty {es : List (AV × AV × Nat)} {l : List MapEntry} (h : RepE c es l) : l.isEmpty = es.isEmpty := by
  have := h.length
  cases es <;> cases l <;> simp_all

theorem RepE.all {p : Nat → Bool} : ∀ {es : List (AV × AV × Nat)} {l : List MapEntry}, RepE c es l → (l.all fun x => p x.born) = es.all fun e => p e.2.2
  | [], l, h => by simp only [RepE] at h; subst h; rfl
  | (k, v, b) :: es, l, h => by
    simp only [RepE] at h
    obtain ⟨e, l', rfl, h1, h2, h3, h4⟩ := h
    subst h3
    simp only [List.all_cons, RepE.all h4]

/-- A map's block. -/
theorem map_block {r st st' ck : Nat} {es : List (AV × AV × Nat)} (hs : Sim P c) (hat : c.σ.at r st = some (.map st' ck es)) :
    ∃ arr : Array MapEntry, c.w.heap[c.ι r]? = some (.map arr ck) ∧ RepE c es arr.toList ∧ c.σ[r]? = some (some (.map st' ck es)) ∧ st' < c.nx := by
  obtain ⟨g1, g2⟩ := Store.at_some hat
  obtain ⟨b1, b2⟩ := hs.blk r _ g1
  simp only [BlkRep] at b1
  obtain ⟨arr, e1, e2⟩ := b1
  exact ⟨arr, e1, e2, g1, b2⟩

theorem run_setO {w : World} {b : Nat} {x o : Obj} (h : w.heap[b]? = some x) (hx : ∀ arr T fz, x ≠ .cells arr T fz) : (setObj b o).run P w = .ok () (w.putObj b o) := by
  simp only [setObj, Sem.run, h]
  cases x <;> first | (exact absurd rfl (hx _ _ _)) | rfl

theorem Wrote.putO {o : Obj} {b : Nat} {x : Obj} (h : c.w.heap[b]? = some x) (hx : ∀ arr T fz, x ≠ .cells arr T fz) : Wrote c b (c.w.putObj b o) :=
  ⟨fun y hy => World.putObj_heap_other hy, World.putObj_size, fun arr T fz he => by rw [h] at he; cases he; exact absurd rfl (hx arr T fz), rfl, rfl, rfl⟩

theorem put_stE {c : Cx} {w' : World} {r : Nat} {b : Blk} (h : b.st < c.nx) : (c.put w' r b).st = (c.σ.set r (some b), c.nx) := by
  simp only [Cx.st, Cx.put, Nat.max_eq_left (Nat.succ_le_of_lt h)]

/-- A map's entries, as they are and as they are made. -/
theorem map_put {r st st' ck ck' : Nat} {es es' : List (AV × AV × Nat)} {arr' : Array MapEntry} (hs : Sim P c) (hat : c.σ.at r st = some (.map st' ck es)) (hr : RepE c es' arr'.toList) :
    Sim P (c.put (c.w.putObj (c.ι r) (.map arr' ck')) r (.map st' ck' es')) ∧ Ext c (c.put (c.w.putObj (c.ι r) (.map arr' ck')) r (.map st' ck' es')) ∧
      (c.put (c.w.putObj (c.ι r) (.map arr' ck')) r (.map st' ck' es')).st = (c.σ.set r (some (.map st' ck' es')), c.nx) := by
  obtain ⟨arr, e1, e2, g1, b2⟩ := map_block hs hat
  have hw : Wrote c (c.ι r) (c.w.putObj (c.ι r) (.map arr' ck')) := Wrote.putO e1 (fun _ _ _ h => by cases h)
  have hst : (Blk.map st' ck' es').st < c.nx → (Blk.map st' ck' es').st = (Blk.map st' ck es).st := fun _ => rfl
  have he := Ext.put hs g1 rfl rfl hw hst
  refine ⟨Sim.put hs g1 rfl rfl hw hst fun he => ?_, he, put_stE b2⟩
  simp only [BlkRep]
  exact ⟨arr', World.putObj_heap_same (Array.getElem?_eq_some_iff.1 e1).1, RepE.mono0 he.to0 hr⟩

theorem put_key {d : TypeDesc} {str : Bool} {k v : AV} {u uv : Value} {ck : Nat} (hd1 : str = true → d = .string) (hd2 : str = false → ∃ q, d = .int q) (hk : keyIs str k = true) (hu : RepV c k u) (huv : RepV c v uv) :
    ∀ {es : List (AV × AV × Nat)} {l : List MapEntry} {p : List (AV × AV × Nat) × Bool} (i : Nat), mputL k v ck es = some p → RepE c es l →
      (p.2 = true ∧ Instr.findNow d u l i = some none ∧ RepE c p.1 (l ++ [{ key := u, val := uv, born := ck }])) ∨
      ∃ j e x, p.2 = false ∧ l[j]? = some e ∧ Instr.findNow d u l i = some (some (i + j, x)) ∧ Instr.sameBits 10000 e.key u = true ∧ RepE c p.1 (l.modify j fun e => { e with key := u, val := uv })
  | [], l, p, i, h, hr => by
    simp only [mputL, Option.some.injEq] at h
    simp only [RepE] at hr
    subst h hr
    exact .inl ⟨rfl, rfl, by simp only [List.nil_append, RepE]; exact ⟨_, _, rfl, hu, huv, rfl, rfl⟩⟩
  | (k', v', b) :: es, l, p, i, h, hr => by
    simp only [RepE] at hr
    obtain ⟨e, l', rfl, r1, r2, r3, r4⟩ := hr
    simp only [mputL, Option.bind_eq_some_iff] at h
    obtain ⟨t, ht, h⟩ := h
    obtain ⟨s1, s2⟩ := same_key hd1 hd2 hk ht hu r1
    cases t with
    | true =>
      cases h
      refine .inr ⟨0, e, e.val, rfl, rfl, by simp [Instr.findNow, s1], (s2 rfl).2, ?_⟩
      simp only [List.modify_zero_cons, RepE]
      exact ⟨_, _, rfl, hu, huv, r3, r4⟩
    | false =>
      simp only [cond_false, Option.map_eq_some_iff] at h
      obtain ⟨q, hq, rfl⟩ := h
      rcases put_key hd1 hd2 hk hu huv (i + 1) hq r4 with ⟨h1, h2, h3⟩ | ⟨j, e', x, h1, h2, h3, h4, h5⟩
      · refine .inl ⟨h1, by simp only [Instr.findNow, s1]; exact h2, ?_⟩
        simp only [List.cons_append, RepE]
        exact ⟨e, _, rfl, r1, r2, r3, h3⟩
      · refine .inr ⟨j + 1, e', x, h1, by simpa using h2, by simp only [Instr.findNow, s1]; rw [h3]; congr 3; omega, h4, ?_⟩
        simp only [List.modify_succ_cons, RepE]
        exact ⟨e, _, rfl, r1, r2, r3, h5⟩

theorem del_key {d : TypeDesc} {str : Bool} {k : AV} {u : Value} (hd1 : str = true → d = .string) (hd2 : str = false → ∃ q, d = .int q) (hk : keyIs str k = true) (hu : RepV c k u) :
    ∀ {es : List (AV × AV × Nat)} {l : List MapEntry} {es' : List (AV × AV × Nat)} (i : Nat), mdelL k es = some es' → RepE c es l →
      (Instr.findNow d u l i = some none ∧ RepE c es' l) ∨ ∃ j x, j < l.length ∧ Instr.findNow d u l i = some (some (i + j, x)) ∧ RepE c es' (l.eraseIdx j)
  | [], l, p, i, h, hr => by
    simp only [mdelL, Option.some.injEq] at h
    simp only [RepE] at hr
    subst h hr
    exact .inl ⟨rfl, by simp only [RepE]⟩
  | (k', v', b) :: es, l, p, i, h, hr => by
    simp only [RepE] at hr
    obtain ⟨e, l', rfl, r1, r2, r3, r4⟩ := hr
    simp only [mdelL, Option.bind_eq_some_iff] at h
    obtain ⟨t, ht, h⟩ := h
    obtain ⟨s1, s2⟩ := same_key hd1 hd2 hk ht hu r1
    cases t with
    | true =>
      cases h
      exact .inr ⟨0, e.val, by simp, by simp [Instr.findNow, s1], by simpa using r4⟩
    | false =>
      simp only [cond_false, Option.map_eq_some_iff] at h
      obtain ⟨q, hq, rfl⟩ := h
      rcases del_key hd1 hd2 hk hu (i + 1) hq r4 with ⟨h2, h3⟩ | ⟨j, x, h1, h3, h5⟩
      · refine .inl ⟨by simp only [Instr.findNow, s1]; exact h2, ?_⟩
        simp only [RepE]
        exact ⟨e, _, rfl, r1, r2, r3, h3⟩
      · refine .inr ⟨j + 1, x, by simpa using h1, by simp only [Instr.findNow, s1]; rw [h3]; congr 3; omega, ?_⟩
        simp only [List.eraseIdx_cons_succ, RepE]
        exact ⟨e, _, rfl, r1, r2, r3, h5⟩

theorem step_mset {t kt et : TypeId} {str : Bool} {x i v : AV} {ux ui uv : Value} {σ' : Store} (hs : Sim P c) (hu : P.underlying t = some (.map kt et)) (hk : kstr P kt = some str)
    (h : msetS c.σ str x i v = some σ') (hx : RepV c x ux) (hi : RepV c i ui) (hv : RepV c v uv) (hK : K (.tup []) (σ', c.nx)) : Stepped1 P c (do Instr.mapUpdate t ux ui uv; pure .skip) K := by
  obtain ⟨d, hd, hdk, hd1, hd2⟩ := kstr_of hk
  unfold msetS at h
  split at h
  · rename_i hki
    split at h
    · rename_i r st
      split at h
      · rename_i st' ck es hat
        simp only [Option.map_eq_some_iff] at h
        obtain ⟨p, hp, rfl⟩ := h
        simp only [RepV] at hx
        have hux := hx.2.2 _ hat rfl
        subst hux
        obtain ⟨arr, e1, e2, g1, b2⟩ := map_block hs hat
        rcases put_key (c := c) hd1 hd2 hki hi hv 0 hp e2 with ⟨h1, h2, h3⟩ | ⟨j, e, y, h1, h2, h3, h4, h5⟩
        · obtain ⟨q1, q2, q3⟩ := map_put (ck' := ck + 1) (arr' := arr.push { key := ui, val := uv, born := ck }) hs hat (by simpa using h3)
          refine ⟨_, .skip, .tup [], ?_, .inr ⟨rfl, rfl⟩, q1, q2, by rw [q3]; rw [h1] at hK; exact hK⟩
          simp only [Instr.mapUpdate, Sem.run_bind, run_und hu, Result.andThen_ok, run_getMap e1, run_checkKey' hd hdk, run_findKey' hd h2, run_setO e1 (fun _ _ _ h => by cases h), Sem.run_pure]
          rfl
        · have hj : arr[j]? = some e := by simpa using h2
          have hst : (Instr.keyThatStays (((arr[j]?).map (·.key)).getD ui) ui).run P c.w = .ok ui c.w := by
            simp [hj, Instr.keyThatStays, h4]
          obtain ⟨q1, q2, q3⟩ := map_put (ck' := ck) (arr' := arr.modify j fun e => { e with key := ui, val := uv }) hs hat (by rw [Array.toList_modify]; exact h5)
          refine ⟨_, .skip, .tup [], ?_, .inr ⟨rfl, rfl⟩, q1, q2, by rw [q3]; rw [h1] at hK; exact hK⟩
          rw [Nat.zero_add] at h3
          simp only [Instr.mapUpdate, Sem.run_bind, run_und hu, Result.andThen_ok, run_getMap e1, run_checkKey' hd hdk, run_findKey' hd h3, hst, run_setO e1 (fun _ _ _ h => by cases h), Sem.run_pure]
          rfl
      · cases h
    · cases h
  · cases h

theorem step_mdel {t kt et ty : TypeId} {ts : Array TypeId} {str : Bool} {x i : AV} {ux ui : Value} {σ' : Store} (hs : Sim P c) (hts : ts[0]? = some t) (hu : P.underlying t = some (.map kt et)) (hk : kstr P kt = some str)
    (h : mdelS c.σ str x i = some σ') (hx : RepV c x ux) (hi : RepV c i ui) (hK : K (.tup []) (σ', c.nx)) : Stepped1 P c (do pure (.value (← Builtin.delete_ ts ty #[ux, ui]))) K := by
  obtain ⟨d, hd, hdk, hd1, hd2⟩ := kstr_of hk
  have hun : RepV c (.tup []) (.tuple #[]) := by simp [RepV, RepL]
  unfold mdelS at h
  split at h
  · rename_i hki
    split at h
    · cases h
      simp only [RepV] at hx
      subst hx
      refine ⟨c, .value (.tuple #[]), .tup [], ?_, .inl ⟨_, rfl, hun⟩, hs, Ext.refl c, hK⟩
      simp [Builtin.delete_, hts, run_und hu, run_checkKey' hd hdk]
    · rename_i r st
      split at h
      · rename_i st' ck es hat
        simp only [Option.map_eq_some_iff] at h
        obtain ⟨p, hp, rfl⟩ := h
        simp only [RepV] at hx
        have hux := hx.2.2 _ hat rfl
        subst hux
        obtain ⟨arr, e1, e2, g1, b2⟩ := map_block hs hat
        rcases del_key (c := c) hd1 hd2 hki hi 0 hp e2 with ⟨h2, h3⟩ | ⟨j, y, h1, h3, h5⟩
        · obtain ⟨q1, q2, q3⟩ := map_put (ck' := ck) (arr' := arr) hs hat h3
          refine ⟨c.put (c.w.putObj (c.ι r) (.map arr ck)) r (.map st' ck p), .value (.tuple #[]), .tup [], ?_, .inl ⟨_, rfl, by simp [RepV, RepL]⟩, q1, q2, by rw [q3]; exact hK⟩
          simp [Builtin.delete_, hts, run_und hu, run_getMap e1, run_checkKey' hd hdk, run_findKey' hd h2, run_setO e1 (fun _ _ _ h => by cases h)]
          rfl
        · rw [Nat.zero_add] at h3
          obtain ⟨q1, q2, q3⟩ := map_put (ck' := ck) (arr' := arr.eraseIdxIfInBounds j) hs hat (by
            have : (arr.eraseIdxIfInBounds j).toList = arr.toList.eraseIdx j := by
              unfold Array.eraseIdxIfInBounds
              rw [dif_pos (by simpa using h1)]
              simp
            rw [this]; exact h5)
          refine ⟨c.put (c.w.putObj (c.ι r) (.map (arr.eraseIdxIfInBounds j) ck)) r (.map st' ck p), .value (.tuple #[]), .tup [], ?_, .inl ⟨_, rfl, by simp [RepV, RepL]⟩, q1, q2, by rw [q3]; exact hK⟩
          simp [Builtin.delete_, hts, run_und hu, run_getMap e1, run_checkKey' hd hdk, run_findKey' hd h3, run_setO e1 (fun _ _ _ h => by cases h)]
          rfl
      · cases h
    · cases h
  · cases h

theorem step_mkm {t : TypeId} (hs : Sim P c) (h : K (.m c.σ.length c.nx) (c.σ ++ [some (.map c.nx 0 [])], c.nx + 1)) : Stepped1 P c (do pure (.value (← Instr.makeMap t none))) K := by
  have hst : (Blk.map c.nx 0 []).st = c.nx := rfl
  have he := Ext.push hs (.map #[] 0) _ hst
  refine ⟨c.push (.map #[] 0) (.map c.nx 0 []), .value (.map (some c.w.heap.size)), _, ?_, .inl ⟨_, rfl, ?_⟩, ?_, he, h⟩
  · simp only [Instr.makeMap, Sem.run_bind, Sem.run_pure, Result.andThen_ok, run_newObj_alloc]
    rfl
  · simp only [RepV]
    refine ⟨⟨_, rfl⟩, by simp [Cx.push], fun blk hb hv => ?_⟩
    simp [Cx.push]
  · refine Sim.push hs _ _ hst fun he => ?_
    simp only [BlkRep, Cx.push, upd_same]
    exact ⟨#[], heap_alloc_new c.w _, by simp [RepE]⟩

theorem step_rngm {t kt et : TypeId} {r st st' ck : Nat} {es : List (AV × AV × Nat)} {u : Value} (hs : Sim P c) (hu : P.underlying t = some (.map kt et)) (hx : RepV c (.m r st) u) (hat : c.σ.at r st = some (.map st' ck es))
    (h : K (.it c.σ.length c.nx) (c.σ ++ [some (.miter c.nx r st ck ck [])], c.nx + 1)) : Stepped1 P c (do pure (.value (← Instr.range t u))) K := by
  simp only [RepV] at hx
  have hux := hx.2.2 _ hat rfl
  subst hux
  obtain ⟨arr, e1, e2, g1, b2⟩ := map_block hs hat
  have hst : (Blk.miter c.nx r st ck ck []).st = c.nx := rfl
  have he := Ext.push hs (.mapIter (some (c.ι r)) ck #[] ck) _ hst
  refine ⟨c.push (.mapIter (some (c.ι r)) ck #[] ck) (.miter c.nx r st ck ck []), .value (.pointer (some ⟨c.w.heap.size, 0, none⟩)), _, ?_, .inl ⟨_, rfl, ?_⟩, ?_, he, h⟩
  · simp only [Instr.range, Sem.run_bind, run_und hu, Result.andThen_ok, run_getMap e1, Sem.run_pure, run_newObj_alloc]
    rfl
  · simp only [RepV]
    refine ⟨⟨_, rfl⟩, by simp [Cx.push], fun blk hb hv => ?_⟩
    simp [Cx.push]
  · refine Sim.push hs _ _ hst fun he => ?_
    simp only [BlkRep]
    refine ⟨c.ι r, ?_, Nat.lt_of_lt_of_le hx.2.1 he.nx, fun b hb hv => ?_⟩
    · simp only [Cx.push, upd_same]
      exact heap_alloc_new c.w _
    · obtain ⟨blk, q1, q2, q3⟩ := he.at hx.2.1 hb
      exact (q3 (q2.trans hv)).symm

theorem step_nextm {r st st' rm sm since last st2 ck : Nat} {seen : List Nat} {es : List (AV × AV × Nat)} {l : List (Option (AV × AV × Nat))} {u : Value} {ty : TypeId} (hs : Sim P c) (hx : RepV c (.it r st) u)
    (hat : c.σ.at r st = some (.miter st' rm sm since last seen)) (hm : c.σ.at rm sm = some (.map st2 ck es)) (hc : mcands seen since last es = some l)
    (h : ∀ o ∈ l, match o with
      | none => K (.tup [.b false]) c.st
      | some e => K (.tup [.b true, e.1, e.2.1]) (c.σ.set r (some (.miter st' rm sm since ck (seen ++ [e.2.2]))), c.nx)) :
    Stepped1 P c (do pure (.value (← Instr.next u false ty))) K := by
  simp only [RepV] at hx
  have hu := hx.2.2 _ hat rfl
  subst hu
  obtain ⟨g1, g2⟩ := Store.at_some hat
  obtain ⟨b1, b2⟩ := hs.blk r _ g1
  simp only [BlkRep] at b1
  obtain ⟨m, e1, e2, e3⟩ := b1
  have hmm := e3 _ hm rfl
  subst hmm
  obtain ⟨arr, f1, f2, f3, f4⟩ := map_block hs hm
  have hget : (getObj (c.ι r)).run P c.w = .ok (.mapIter (some (c.ι rm)) since seen.toArray last) c.w := by simp [getObj, Sem.run, e1]
  unfold mcands at hc
  split at hc
  · cases hc
  · rename_i hno
    simp only [Option.some.injEq] at hc
    have hno' : (!seen.toArray.isEmpty && !arr.isEmpty && arr.all (fun x => decide (x.born ≥ last))) = false := by
      have a1 := f2.isEmpty
      have a2 := f2.all (p := fun b => decide (last ≤ b))
      have a3 : arr.isEmpty = arr.toList.isEmpty := by simp
      have a4 : (arr.all fun x => decide (x.born ≥ last)) = arr.toList.all fun x => decide (last ≤ x.born) := by simp
      have a5 : seen.toArray.isEmpty = seen.isEmpty := by simp
      rw [a3, a4, a5, a1, a2]
      simpa using hno
    have r1 := f2.filter (p := fun b => !seen.contains b)
    have r2 := r1.filter (p := fun b => decide (b < since))
    have r3 := r1.filter (p := fun b => decide (since ≤ b))
    have r4 := r2.append r3
    let left := arr.filter fun e => !seen.toArray.contains e.born
    let old := left.filter fun e => decide (e.born < since)
    let new := left.filter fun e => decide (e.born ≥ since)
    let cands : Array (Option MapEntry) := (if old.isEmpty then #[none] else #[]) ++ (old ++ new).map some
    have hold : old.toList = (arr.toList.filter fun x => !seen.contains x.born).filter fun x => decide (x.born < since) := by simp [old, left]
    have hnew : new.toList = (arr.toList.filter fun x => !seen.contains x.born).filter fun x => decide (since ≤ x.born) := by simp [new, left]
    have hemp : old.isEmpty = ((es.filter fun e => !seen.contains e.2.2).filter fun e => decide (e.2.2 < since)).isEmpty := by
      have := r2.isEmpty
      rw [← hold] at this
      rw [← this]
      simp
    have hpos : 0 < cands.size := by
      cases ho : old.isEmpty with
      | true =>
        have : cands.size = 1 + ((old ++ new).map some).size := by simp only [cands, ho, if_true, Array.size_append]; rfl
        omega
      | false =>
        have : 0 < old.size := by
          rcases Nat.eq_zero_or_pos old.size with h | h
          · have : old = #[] := Array.eq_empty_of_size_eq_zero h
            rw [this] at ho; cases ho
          · exact h
        simp [cands, ho]
        omega
    -- every candidate is one of the list's
    have hall : ∀ (j : Nat) (o : Option MapEntry), cands[j]? = some o → (o = none ∧ none ∈ l) ∨ ∃ x e, o = some x ∧ some e ∈ l ∧ RepV c e.1 x.key ∧ RepV c e.2.1 x.val ∧ x.born = e.2.2 := by
      intro j o hj
      rw [← hc, ← hemp]
      have hsome : ∀ (j : Nat) (o : Option MapEntry), ((old ++ new).map some)[j]? = some o → ∃ x e, o = some x ∧ some e ∈ (List.map some (((es.filter fun e => !seen.contains e.2.2).filter fun e => decide (e.2.2 < since)) ++ ((es.filter fun e => !seen.contains e.2.2).filter fun e => decide (since ≤ e.2.2)))) ∧ RepV c e.1 x.key ∧ RepV c e.2.1 x.val ∧ x.born = e.2.2 := by
        intro j o hj
        simp only [Array.getElem?_map, Option.map_eq_some_iff] at hj
        obtain ⟨x, hx1, rfl⟩ := hj
        have hx2 : (old.toList ++ new.toList)[j]? = some x := by rw [← Array.toList_append, Array.getElem?_toList]; exact hx1
        rw [hold, hnew] at hx2
        obtain ⟨e, q1, q2, q3, q4⟩ := r4.get hx2
        exact ⟨x, e, rfl, List.mem_map.2 ⟨e, List.mem_of_getElem? q1, rfl⟩, q2, q3, q4⟩
      cases ho : old.isEmpty with
      | false =>
        simp only [cands, ho, Bool.false_eq_true, if_false, Array.empty_append] at hj
        right
        simpa using hsome j o hj
      | true =>
        simp only [cands, ho, if_true] at hj
        cases j with
        | zero =>
          left
          have hj' : o = none := by
            rw [Array.getElem?_append] at hj
            simpa using hj.symm
          exact ⟨hj', by simp⟩
        | succ j =>
          right
          have hj' : ((old ++ new).map some)[j]? = some o := by
            rw [Array.getElem?_append] at hj
            simpa using hj
          obtain ⟨x, e, k1, k2, k3⟩ := hsome j o hj'
          exact ⟨x, e, k1, List.mem_append.2 (.inr k2), k3⟩
    -- the choice
    obtain ⟨idx, cw, hch, hidx, hcw⟩ : ∃ (idx : Nat) (cw : Cx), (choose (.mapNext cands.size)).run P c.w = .ok idx cw.w ∧ idx < cands.size ∧ (cw = c ∨ cw = c.drew) := by
      rw [run_choose]
      by_cases hf : (Question.mapNext cands.size).forced = true
      · exact ⟨0, c, by rw [if_pos hf], hpos, .inl rfl⟩
      · exact ⟨(Question.mapNext cands.size).cut (c.w.tape c.w.drawn (.mapNext cands.size)), c.drew, by rw [if_neg hf]; rfl, Nat.mod_lt _ hpos, .inr rfl⟩
    have hsw : Sim P cw ∧ Ext c cw ∧ cw.σ = c.σ ∧ cw.nx = c.nx ∧ cw.ι = c.ι ∧ cw.w.heap = c.w.heap := by
      rcases hcw with rfl | rfl
      · exact ⟨hs, Ext.refl _, rfl, rfl, rfl, rfl⟩
      · exact ⟨hs.drew, Ext.drew c, rfl, rfl, rfl, rfl⟩
    obtain ⟨s1, s2, s3, s4, s5, s6⟩ := hsw
    have hcget : cands[idx]? = some cands[idx] := Array.getElem?_eq_getElem hidx
    have hrun : ∀ {w' : World} {v : Value}, (match cands[idx]? with
        | some (some e) => do
          setObj (c.ι r) (.mapIter (some (c.ι rm)) since (seen.toArray.push e.born) ck)
          pure (.tuple #[.bool true, e.key, e.val])
        | some none => pure (.tuple #[.bool false])
        | none => stuck "Next: no such candidate" : Sem Value).run P cw.w = .ok v w' → (Instr.next (.pointer (some ⟨c.ι r, 0, none⟩)) false ty).run P c.w = .ok v w' := by
      intro w' v hv
      simp only [Instr.next, Sem.run_bind, hget, Result.andThen_ok, run_getMap f1, Sem.run_ite]
      rw [if_neg (by rw [hno']; simp)]
      show ((choose (.mapNext cands.size)).run P c.w).andThen (fun i w => (match cands[i]? with
        | some (some e) => do
          setObj (c.ι r) (.mapIter (some (c.ι rm)) since (seen.toArray.push e.born) ck)
          pure (.tuple #[.bool true, e.key, e.val])
        | some none => pure (.tuple #[.bool false])
        | none => stuck "Next: no such candidate" : Sem Value).run P w) = _
      rw [hch]
      exact hv
    rcases hall idx _ hcget with ⟨h1, h2⟩ | ⟨x, e, h1, h2, h3, h4, h5⟩
    · refine ⟨cw, .value (.tuple #[.bool false]), .tup [.b false], ?_, .inl ⟨_, rfl, by simp [RepV, RepL]⟩, s1, s2, ?_⟩
      · have := hrun (v := .tuple #[.bool false]) (w' := cw.w) (by rw [hcget, h1]; rfl)
        simp only [Sem.run_bind, this, Result.andThen_ok, Sem.run_pure]
      · have := h _ h2
        simp only at this
        rw [show cw.st = c.st from by simp only [Cx.st, s3, s4]]
        exact this
    · have e1' : cw.w.heap[cw.ι r]? = some (.mapIter (some (c.ι rm)) since seen.toArray last) := by rw [s6, s5]; exact e1
      have g1' : cw.σ[r]? = some (some (.miter st' rm sm since last seen)) := by rw [s3]; exact g1
      let o' : Obj := .mapIter (some (c.ι rm)) since (seen.toArray.push x.born) ck
      have hw : Wrote cw (cw.ι r) (cw.w.putObj (cw.ι r) o') := Wrote.putO e1' (fun _ _ _ h => by cases h)
      let b' : Blk := .miter st' rm sm since ck (seen ++ [e.2.2])
      have hst : b'.st < cw.nx → b'.st = (Blk.miter st' rm sm since last seen).st := fun _ => rfl
      have he := Ext.put s1 g1' rfl (b' := b') rfl hw hst
      have hsim := Sim.put s1 g1' rfl (b' := b') rfl hw hst fun he => by
        simp only [BlkRep, b']
        refine ⟨c.ι rm, ?_, ?_, fun b hb hv => ?_⟩
        · have := World.putObj_heap_same (o := o') (Array.getElem?_eq_some_iff.1 e1').1
          rw [show (seen ++ [e.2.2]).toArray = seen.toArray.push e.2.2 from by simp, ← h5]
          exact this
        · show sm < max cw.nx _
          have := e2
          omega
        · have hsm : sm < cw.nx := by rw [s4]; exact e2
          obtain ⟨blk, q1, q2, q3⟩ := he.at hsm hb
          rw [q3 (q2.trans hv), s5]
      refine ⟨_, .value (.tuple #[.bool true, x.key, x.val]), .tup [.b true, e.1, e.2.1], ?_, .inl ⟨_, rfl, ?_⟩, hsim, s2.trans he, ?_⟩
      · have := hrun (v := .tuple #[.bool true, x.key, x.val]) (w' := cw.w.putObj (cw.ι r) o') (by
          rw [hcget, h1]
          simp only [Sem.run_bind]
          rw [← s5, run_setO e1' (fun _ _ _ h => by cases h)]
          simp [o', s5])
        simp only [Sem.run_bind, this, Result.andThen_ok, Sem.run_pure]
        rfl
      · have he' := s2.trans he
        simp only [RepV, RepL]
        exact ⟨_, rfl, _, _, rfl, rfl, _, _, rfl, RepV.mono he' _ _ h3, _, _, rfl, RepV.mono he' _ _ h4, rfl⟩
      · have := h _ h2
        simp only at this
        rw [put_stE (show b'.st < cw.nx from by rw [s4]; exact b2), s3, s4]
        exact this

theorem step_rngmi {t kt et : TypeId} {ck : Nat} {bs : List Nat} {ks : List AV} {u : Value} (hs : Sim P c) (hu : P.underlying t = some (.map kt et)) (hx : RepV c (.mi ck bs ks) u)
    (h : K (.it c.σ.length c.nx) (c.σ ++ [some (.miti c.nx ck bs ks [])], c.nx + 1)) : Stepped1 P c (do pure (.value (← Instr.range t u))) K := by
  simp only [RepV] at hx
  obtain ⟨b, arr, rfl, hb, e1, e2, e3⟩ := hx
  have hst : (Blk.miti c.nx ck bs ks []).st = c.nx := rfl
  have he := Ext.push hs (.mapIter (some b) ck #[] ck) _ hst
  refine ⟨c.push (.mapIter (some b) ck #[] ck) (.miti c.nx ck bs ks []), .value (.pointer (some ⟨c.w.heap.size, 0, none⟩)), _, ?_, .inl ⟨_, rfl, ?_⟩, ?_, he, h⟩
  · simp only [Instr.range, Sem.run_bind, run_und hu, Result.andThen_ok, run_getMap e1, Sem.run_pure, run_newObj_alloc]
    rfl
  · simp only [RepV]
    refine ⟨⟨_, rfl⟩, by simp [Cx.push], fun blk hb hv => ?_⟩
    simp [Cx.push]
  · refine Sim.push hs _ _ hst fun he => ?_
    simp only [BlkRep]
    refine ⟨b, arr, ?_, hb, (he.keep0 b hb).trans e1, e2, RepL.mono he _ _ e3⟩
    simp only [Cx.push, upd_same]
    exact heap_alloc_new c.w _

theorem step_nextmi {r st st' ck : Nat} {bs : List Nat} {ks : List AV} {seen : List Nat} {l : List (Option (AV × AV × Nat))} {u : Value} {ty : TypeId} (hs : Sim P c) (hx : RepV c (.it r st) u)
    (hat : c.σ.at r st = some (.miti st' ck bs ks seen)) (hc : mcands seen ck ck (mkEs bs ks) = some l)
    (h : ∀ o ∈ l, match o with
      | none => K (.tup [.b false]) c.st
      | some e => K (.tup [.b true, e.1, .u]) (c.σ.set r (some (.miti st' ck bs ks (seen ++ [e.2.2]))), c.nx)) :
    Stepped1 P c (do pure (.value (← Instr.next u false ty))) K := by
  simp only [RepV] at hx
  have hu := hx.2.2 _ hat rfl
  subst hu
  obtain ⟨g1, g2⟩ := Store.at_some hat
  obtain ⟨b1, b2⟩ := hs.blk r _ g1
  simp only [BlkRep] at b1
  obtain ⟨m, arr, e1, e2, f1, e3, e4⟩ := b1
  have f2 := mkEs_rep (c := c) e3 e4
  have hget : (getObj (c.ι r)).run P c.w = .ok (.mapIter (some (m)) ck seen.toArray ck) c.w := by simp [getObj, Sem.run, e1]
  unfold mcands at hc
  split at hc
  · cases hc
  · rename_i hno
    simp only [Option.some.injEq] at hc
    have hno' : (!seen.toArray.isEmpty && !arr.isEmpty && arr.all (fun x => decide (x.born ≥ ck))) = false := by
      have a1 := f2.isEmpty
      have a2 := f2.all (p := fun b => decide (ck ≤ b))
      have a3 : arr.isEmpty = arr.toList.isEmpty := by simp
      have a4 : (arr.all fun x => decide (x.born ≥ ck)) = arr.toList.all fun x => decide (ck ≤ x.born) := by simp
      have a5 : seen.toArray.isEmpty = seen.isEmpty := by simp
      rw [a3, a4, a5, a1, a2]
      simpa using hno
    have r1 := f2.filter (p := fun b => !seen.contains b)
    have r2 := r1.filter (p := fun b => decide (b < ck))
    have r3 := r1.filter (p := fun b => decide (ck ≤ b))
    have r4 := r2.append r3
    let left := arr.filter fun e => !seen.toArray.contains e.born
    let old := left.filter fun e => decide (e.born < ck)
    let new := left.filter fun e => decide (e.born ≥ ck)
    let cands : Array (Option MapEntry) := (if old.isEmpty then #[none] else #[]) ++ (old ++ new).map some
    have hold : old.toList = (arr.toList.filter fun x => !seen.contains x.born).filter fun x => decide (x.born < ck) := by simp [old, left]
    have hnew : new.toList = (arr.toList.filter fun x => !seen.contains x.born).filter fun x => decide (ck ≤ x.born) := by simp [new, left]
    have hemp : old.isEmpty = (((mkEs bs ks).filter fun e => !seen.contains e.2.2).filter fun e => decide (e.2.2 < ck)).isEmpty := by
      have := r2.isEmpty
      rw [← hold] at this
      rw [← this]
      simp
    have hpos : 0 < cands.size := by
      cases ho : old.isEmpty with
      | true =>
        have : cands.size = 1 + ((old ++ new).map some).size := by simp only [cands, ho, if_true, Array.size_append]; rfl
        omega
      | false =>
        have : 0 < old.size := by
          rcases Nat.eq_zero_or_pos old.size with h | h
          · have : old = #[] := Array.eq_empty_of_size_eq_zero h
            rw [this] at ho; cases ho
          · exact h
        simp [cands, ho]
        omega
    -- every candidate is one of the list's
    have hall : ∀ (j : Nat) (o : Option MapEntry), cands[j]? = some o → (o = none ∧ none ∈ l) ∨ ∃ x e, o = some x ∧ some e ∈ l ∧ RepV c e.1 x.key ∧ RepV c e.2.1 x.val ∧ x.born = e.2.2 := by
      intro j o hj
      rw [← hc, ← hemp]
      have hsome : ∀ (j : Nat) (o : Option MapEntry), ((old ++ new).map some)[j]? = some o → ∃ x e, o = some x ∧ some e ∈ (List.map some ((((mkEs bs ks).filter fun e => !seen.contains e.2.2).filter fun e => decide (e.2.2 < ck)) ++ (((mkEs bs ks).filter fun e => !seen.contains e.2.2).filter fun e => decide (ck ≤ e.2.2)))) ∧ RepV c e.1 x.key ∧ RepV c e.2.1 x.val ∧ x.born = e.2.2 := by
        intro j o hj
        simp only [Array.getElem?_map, Option.map_eq_some_iff] at hj
        obtain ⟨x, hx1, rfl⟩ := hj
        have hx2 : (old.toList ++ new.toList)[j]? = some x := by rw [← Array.toList_append, Array.getElem?_toList]; exact hx1
        rw [hold, hnew] at hx2
        obtain ⟨e, q1, q2, q3, q4⟩ := r4.get hx2
        exact ⟨x, e, rfl, List.mem_map.2 ⟨e, List.mem_of_getElem? q1, rfl⟩, q2, q3, q4⟩
      cases ho : old.isEmpty with
      | false =>
        simp only [cands, ho, Bool.false_eq_true, if_false, Array.empty_append] at hj
        right
        simpa using hsome j o hj
      | true =>
        simp only [cands, ho, if_true] at hj
        cases j with
        | zero =>
          left
          have hj' : o = none := by
            rw [Array.getElem?_append] at hj
            simpa using hj.symm
          exact ⟨hj', by simp⟩
        | succ j =>
          right
          have hj' : ((old ++ new).map some)[j]? = some o := by
            rw [Array.getElem?_append] at hj
            simpa using hj
          obtain ⟨x, e, k1, k2, k3⟩ := hsome j o hj'
          exact ⟨x, e, k1, List.mem_append.2 (.inr k2), k3⟩
    -- the choice
    obtain ⟨idx, cw, hch, hidx, hcw⟩ : ∃ (idx : Nat) (cw : Cx), (choose (.mapNext cands.size)).run P c.w = .ok idx cw.w ∧ idx < cands.size ∧ (cw = c ∨ cw = c.drew) := by
      rw [run_choose]
      by_cases hf : (Question.mapNext cands.size).forced = true
      · exact ⟨0, c, by rw [if_pos hf], hpos, .inl rfl⟩
      · exact ⟨(Question.mapNext cands.size).cut (c.w.tape c.w.drawn (.mapNext cands.size)), c.drew, by rw [if_neg hf]; rfl, Nat.mod_lt _ hpos, .inr rfl⟩
    have hsw : Sim P cw ∧ Ext c cw ∧ cw.σ = c.σ ∧ cw.nx = c.nx ∧ cw.ι = c.ι ∧ cw.w.heap = c.w.heap := by
      rcases hcw with rfl | rfl
      · exact ⟨hs, Ext.refl _, rfl, rfl, rfl, rfl⟩
      · exact ⟨hs.drew, Ext.drew c, rfl, rfl, rfl, rfl⟩
    obtain ⟨s1, s2, s3, s4, s5, s6⟩ := hsw
    have hcget : cands[idx]? = some cands[idx] := Array.getElem?_eq_getElem hidx
    have hrun : ∀ {w' : World} {v : Value}, (match cands[idx]? with
        | some (some e) => do
          setObj (c.ι r) (.mapIter (some (m)) ck (seen.toArray.push e.born) ck)
          pure (.tuple #[.bool true, e.key, e.val])
        | some none => pure (.tuple #[.bool false])
        | none => stuck "Next: no such candidate" : Sem Value).run P cw.w = .ok v w' → (Instr.next (.pointer (some ⟨c.ι r, 0, none⟩)) false ty).run P c.w = .ok v w' := by
      intro w' v hv
      simp only [Instr.next, Sem.run_bind, hget, Result.andThen_ok, run_getMap f1, Sem.run_ite]
      rw [if_neg (by rw [hno']; simp)]
      show ((choose (.mapNext cands.size)).run P c.w).andThen (fun i w => (match cands[i]? with
        | some (some e) => do
          setObj (c.ι r) (.mapIter (some (m)) ck (seen.toArray.push e.born) ck)
          pure (.tuple #[.bool true, e.key, e.val])
        | some none => pure (.tuple #[.bool false])
        | none => stuck "Next: no such candidate" : Sem Value).run P w) = _
      rw [hch]
      exact hv
    rcases hall idx _ hcget with ⟨h1, h2⟩ | ⟨x, e, h1, h2, h3, h4, h5⟩
    · refine ⟨cw, .value (.tuple #[.bool false]), .tup [.b false], ?_, .inl ⟨_, rfl, by simp [RepV, RepL]⟩, s1, s2, ?_⟩
      · have := hrun (v := .tuple #[.bool false]) (w' := cw.w) (by rw [hcget, h1]; rfl)
        simp only [Sem.run_bind, this, Result.andThen_ok, Sem.run_pure]
      · have := h _ h2
        simp only at this
        rw [show cw.st = c.st from by simp only [Cx.st, s3, s4]]
        exact this
    · have e1' : cw.w.heap[cw.ι r]? = some (.mapIter (some (m)) ck seen.toArray ck) := by rw [s6, s5]; exact e1
      have g1' : cw.σ[r]? = some (some (.miti st' ck bs ks seen)) := by rw [s3]; exact g1
      let o' : Obj := .mapIter (some (m)) ck (seen.toArray.push x.born) ck
      have hw : Wrote cw (cw.ι r) (cw.w.putObj (cw.ι r) o') := Wrote.putO e1' (fun _ _ _ h => by cases h)
      let b' : Blk := .miti st' ck bs ks (seen ++ [e.2.2])
      have hst : b'.st < cw.nx → b'.st = (Blk.miti st' ck bs ks seen).st := fun _ => rfl
      have he := Ext.put s1 g1' rfl (b' := b') rfl hw hst
      have hsim := Sim.put s1 g1' rfl (b' := b') rfl hw hst fun he => by
        simp only [BlkRep, b']
        refine ⟨m, arr, ?_, by rw [show (cw.put (cw.w.putObj (cw.ι r) o') r (.miti st' ck bs ks (seen ++ [e.2.2]))).n0 = cw.n0 from rfl, s2.n0]; exact e2, ?_, e3, RepL.mono (s2.trans he) _ _ e4⟩
        · have := World.putObj_heap_same (o := o') (Array.getElem?_eq_some_iff.1 e1').1
          rw [show (seen ++ [e.2.2]).toArray = seen.toArray.push e.2.2 from by simp, ← h5]
          exact this
        · exact ((s2.trans he).keep0 m e2).trans f1
      refine ⟨_, .value (.tuple #[.bool true, x.key, x.val]), .tup [.b true, e.1, .u], ?_, .inl ⟨_, rfl, ?_⟩, hsim, s2.trans he, ?_⟩
      · have := hrun (v := .tuple #[.bool true, x.key, x.val]) (w' := cw.w.putObj (cw.ι r) o') (by
          rw [hcget, h1]
          simp only [Sem.run_bind]
          rw [← s5, run_setO e1' (fun _ _ _ h => by cases h)]
          simp [o', s5])
        simp only [Sem.run_bind, this, Result.andThen_ok, Sem.run_pure]
        rfl
      · have he' := s2.trans he
        simp only [RepV, RepL]
        exact ⟨_, rfl, _, _, rfl, rfl, _, _, rfl, RepV.mono he' _ _ h3, _, _, rfl, trivial, rfl⟩
      · have := h _ h2
        simp only at this
        rw [put_stE (show b'.st < cw.nx from by rw [s4]; exact b2), s3, s4]
        exact this

end
end Hb
end

section
set_option linter.unusedVariables false
set_option linter.unusedSimpArgs false
set_option linter.constructorNameAsVariable false
set_option autoImplicit false
set_option linter.unusedSimpArgs false
set_option linter.unusedVariables false
namespace Hb
open Go

section
variable {P : Prg} {c : Cx} {N : Nat} {ρ : Nat → AV} {a : Act} {K : AV → St → Prop}

/-- Cells that are written into a block. -/
theorem write_cells {r st st' T fz o : Nat} {old cs : List AV} {zs : List Value} (hs : Sim P c) (hat : c.σ.at r st = some (.cells st' false T fz old)) (r1 : RepL c cs zs) (r2 : ∀ v ∈ zs, v.oneCell' = true)
    (hb : o + cs.length ≤ old.length) (hfz : fz ≤ o + 1) :
    ∃ w', (storeCells ⟨c.ι r, o, none⟩ zs 0).run P c.w = .ok () w' ∧ Sim P (c.put w' r (.cells st' false T fz (replaceAt old o cs))) ∧ Ext c (c.put w' r (.cells st' false T fz (replaceAt old o cs))) ∧
      (c.put w' r (.cells st' false T fz (replaceAt old o cs))).st = (c.σ.set r (some (.cells st' false T fz (replaceAt old o cs))), c.nx) := by
  obtain ⟨g1, g2⟩ := Store.at_some hat
  have hv : (Blk.cells st' false T fz old).virt = false := rfl
  obtain ⟨b1, b2⟩ := hs.blk r _ g1
  simp only [BlkRep] at b1
  obtain ⟨arr, fzr, e1, e2, e3, e4⟩ := b1.2 trivial
  have hlen := r1.length
  have hbound : o + zs.length ≤ arr.size := by omega
  obtain ⟨w', arr', k1, k2, k3, k4, k5, k6, k7, k8, k9⟩ := run_stores P (c.ι r) o zs 0 c.w arr T fzr e1 (fun j hj1 hj2 => e2.1 j (by omega) hj2) (by omega) r2
  have hw : Wrote c (c.ι r) w' := ⟨k5, k6, fun arr0 T0 fz0 h0 => by rw [e1] at h0; cases h0; exact ⟨arr', fzr, k2, k3⟩, k7, k8, k9⟩
  let b' : Blk := .cells st' false T fz (replaceAt old o cs)
  have hsim : Sim P (c.put w' r b') := Sim.put hs g1 hv rfl hw (fun _ => rfl) fun he => by
    simp only [BlkRep, b']
    refine ⟨fun h => (by cases h), fun _ => ⟨arr', fzr, k2, by rw [k3]; exact e2, ?_, ?_⟩⟩
    · rw [replaceAt_length (by omega), k3]; exact e3
    · obtain ⟨ys, y1, y2, y3, y4⟩ := e4.vals
      have hys : ys = arr.toList.take old.length := by
        apply List.ext_getElem?
        intro j
        rw [List.getElem?_take]
        split
        · rename_i hj
          rw [← y1] at hj
          have := y2 j ys[j] (List.getElem?_eq_getElem hj)
          rw [List.getElem?_eq_getElem hj]
          simp [World.cell?, e1] at this
          simpa using this.symm
        · rename_i hj
          rw [List.getElem?_eq_none (by omega)]
      subst hys
      refine RepAt.of_vals (ys := (arr.toList.take o) ++ (zs ++ (arr.toList.take old.length).drop (o + cs.length))) ?_ (fun j y hj => ?_) (fun y hy => ?_)
      · unfold replaceAt
        have y3' := RepL.mono he _ _ y3
        have t1 : (arr.toList.take old.length).take o = arr.toList.take o := by rw [List.take_take]; congr 1; omega
        rw [← t1]
        exact (y3'.take _).append ((RepL.mono he _ _ r1).append (y3'.drop _))
      · have hcell : (c.put w' r b').w.cell? ⟨c.ι r, 0 + j, none⟩ = arr'.toList[j]? := by
          simp [Cx.put, World.cell?, k2]
        rw [show (c.put w' r b').ι r = c.ι r from rfl, hcell, k4, ← hlen]
        simp only [Nat.add_zero]
        rw [List.getElem?_append] at hj ⊢
        split
        · rename_i hj'; rw [if_pos hj'] at hj; exact hj
        · rename_i hj'; rw [if_neg hj'] at hj
          rw [List.getElem?_append] at hj ⊢
          split
          · rename_i hj2; rw [if_pos hj2] at hj; exact hj
          · rename_i hj2; rw [if_neg hj2] at hj
            rw [List.getElem?_drop, List.getElem?_take] at hj
            split at hj
            · rw [List.getElem?_drop]; exact hj
            · cases hj
      · rcases List.mem_append.1 hy with hy | hy
        · exact y4 y (by
            have t1 : (arr.toList.take old.length).take o = arr.toList.take o := by rw [List.take_take]; congr 1; omega
            rw [← t1] at hy; exact List.mem_of_mem_take hy)
        · rcases List.mem_append.1 hy with hy | hy
          · exact r2 y hy
          · exact y4 y (List.mem_of_mem_drop hy)
  exact ⟨w', k1, hsim, Ext.put hs g1 hv rfl hw (fun _ => rfl), put_stE b2⟩

theorem step_clr {t e ty : TypeId} {ts : Array TypeId} {k : Nat} {z : List AV} {x : AV} {ux : Value} {σ' : Store} (hs : Sim P c) (hts : ts[0]? = some t) (hu : P.underlying t = some (.slice e)) (hz : tzero P e = some z) (hzl : z.length = k) (hk0 : 0 < k)
    (h : clrS c.σ k z x = some σ') (hx : RepV c x ux) (hK : K (.tup []) (σ', c.nx)) : Stepped1 P c (do pure (.value (← Builtin.clear_ ts ty #[ux]))) K := by
  have hun : RepV c (.tup []) (.tuple #[]) := by simp [RepV, RepL]
  have triv : ∀ {a : Option Addr} {m : Nat}, ux = .slice a 0 m → σ' = c.σ → Stepped1 P c (do pure (.value (← Builtin.clear_ ts ty #[ux]))) K := by
    rintro a m rfl rfl
    refine ⟨c, .value (.tuple #[]), .tup [], ?_, .inl ⟨_, rfl, hun⟩, hs, Ext.refl c, hK⟩
    cases a <;> simp [Builtin.clear_, hts, run_und hu]
  unfold clrS at h
  split at h
  · cases h
    simp only [RepV] at hx
    exact triv hx rfl
  · cases h
    simp only [RepV] at hx
    obtain ⟨b, hb, _⟩ := hx
    exact triv hb rfl
  · rename_i r st i n k'
    split at h
    · rename_i hn
      cases h
      simp only [RepV] at hx
      obtain ⟨⟨b, cap, hb⟩, _⟩ := hx
      rw [hn] at hb
      exact triv hb rfl
    · rename_i hn
      split at h
      · rename_i st' T fz old hat
        split at h
        · rename_i hcond
          obtain ⟨hkk, hlen, hfz⟩ := hcond
          cases h
          subst hkk
          simp only [RepV] at hx
          obtain ⟨off, cap, arr, T', fz', hv, hle, _, hoff⟩ := (hx.2.2 _ hat).2 rfl
          have hc0 : cap ≠ 0 := by omega
          obtain ⟨ho, _⟩ := hoff hc0
          subst hv ho
          obtain ⟨zv, hz1, hz2⟩ := run_tzero hz c.w
          obtain ⟨r1, r2⟩ := litL_rep (c := c) hz2
          have hzs : zv.cells.size = k' := by rw [← Array.length_toList, ← r1.length]; exact hzl
          obtain ⟨q1, q2⟩ := zero_row (c := c) (n := n) r1 r2 hzl hk0
          obtain ⟨w', w1, w2, w3, w4⟩ := write_cells (P := P) (o := i * k') hs hat q1 q2 (by simp; omega) hfz
          refine ⟨_, .value (.tuple #[]), .tup [], ?_, .inl ⟨_, rfl, by simp [RepV, RepL]⟩, w2, w3, by rw [w4]; exact hK⟩
          have hzc : Builtin.zeroCells zv.cells n = (Array.range (n * k')).map (zv.cells[· % zv.cells.size]!) := by
            simp only [Builtin.zeroCells, hzs]
          obtain ⟨n', rfl⟩ : ∃ n', n = n' + 1 := ⟨n - 1, by omega⟩
          simp only [Builtin.clear_, hts, Sem.run_bind, run_und hu, Result.andThen_ok]
          simp only [List.getElem?_toArray, List.getElem?_cons_zero, Sem.run_bind, run_und hu, Result.andThen_ok, hz1, hzc, w1, Sem.run_pure]
          rfl
        · cases h
      · cases h
  · cases h

theorem step_lit0 {t e : TypeId} {k : Nat} (hs : Sim P c) (hu : P.underlying t = some (.slice e)) (hk : tsz P e = some k)
    (h : K (.gr c.σ.length c.nx 0 0 k) (c.σ ++ [some (.cells c.nx false e 0 [])], c.nx + 1)) : Stepped1 P c (do pure (.value (← Instr.buildSlice t 0 #[]))) K := by
  obtain ⟨c', e1, e2, e3, e4, e5⟩ := new_row (P := P) (T := e) (arr := #[]) (fz := (0, 0)) (f0 := 0) (k := k) (n := 0) (cap := 0) hs (cs := []) (by simp [RepL]) (by simp) (by simp) (fzOk_zero _ _) (Nat.le_refl _) (by simp)
  refine ⟨c', _, _, ?_, .inl ⟨_, rfl, e5⟩, e3, e4, by rw [e2]; exact h⟩
  simp only [Instr.buildSlice, Sem.run_bind, run_und hu, Result.andThen_ok, run_tsz hk, Nat.zero_mul]
  simp [Instr.fill, newRow, e1]
  rw [show (Array.range 0) = #[] from by simp]
  simp

theorem step_mks {x : AV} {u : Value} {σ' : Store} {t e : TypeId} (hs : Sim P c) (hu : P.underlying t = some (.slice e)) (he : P.underlying e = some (.int .u8)) (h : mksS c.σ x = some σ') (hx : RepV c x u)
    (hK : K x (σ', c.nx)) : Stepped1 P c (do pure (.value (← convert t t u))) K := by
  unfold mksS at h
  split at h
  · rename_i r st i n k
    split at h
    · rename_i st' T fz cs hat
      split at h
      · rename_i hcond
        obtain ⟨rfl, rfl, hn⟩ := hcond
        cases h
        have hx0 := hx
        simp only [RepV] at hx
        obtain ⟨off, cap, arr', T', fz', hv, hle, _, hoff⟩ := (hx.2.2 _ hat).2 rfl
        subst hv
        obtain ⟨g1, g2⟩ := Store.at_some hat
        obtain ⟨b1, b2⟩ := hs.blk _ _ g1
        simp only [BlkRep] at b1
        obtain ⟨arr, fzr, e1, e2, e3, e4⟩ := b1.2 trivial
        have hfr : fzr.1 = fzr.2 := by
          rcases e2.2 (by omega) with h | h
          · exact h
          · omega
        let w' := c.w.freeze ⟨c.ι r, arr.size, none⟩ 1
        have hw' : w'.heap = c.w.heap.modify (c.ι r) fun
            | .cells c elem (lo, hi) => .cells c elem (if lo == hi then (arr.size, arr.size + 1) else (min lo arr.size, max hi (arr.size + 1)))
            | o => o := by
          simp only [w', World.freeze, Nat.one_ne_zero, if_false]
          rfl
        have hblk : w'.heap[c.ι r]? = some (.cells arr T (arr.size, arr.size + 1)) := by
          rw [hw', Array.getElem?_modify, if_pos rfl, e1]
          simp [hfr]
        have hw : Wrote c (c.ι r) w' := by
          refine ⟨fun x hx => ?_, ?_, fun arr0 T0 fz0 h0 => ?_, ?_, ?_, ?_⟩
          · rw [hw', Array.getElem?_modify, if_neg (fun e => hx e.symm)]
          · rw [hw', Array.size_modify]
          · rw [e1] at h0; cases h0; exact ⟨arr, _, hblk, rfl⟩
          · simp only [w', World.freeze, Nat.one_ne_zero, if_false]
          · simp only [w', World.freeze, Nat.one_ne_zero, if_false]
          · simp only [w', World.freeze, Nat.one_ne_zero, if_false]
        let b' : Blk := .cells st' false T 1 cs
        have hst : b'.st < c.nx → b'.st = (Blk.cells st' false T 0 cs).st := fun _ => rfl
        have hext := Ext.put hs g1 rfl (b' := b') rfl hw hst
        have hsim : Sim P (c.put w' r b') := Sim.put hs g1 rfl rfl hw hst fun he => by
          simp only [BlkRep, b']
          refine ⟨fun h => (by cases h), fun _ => ⟨arr, _, hblk, ⟨by intro j _ hj; simp only; omega, fun h => absurd rfl h⟩, e3, ?_⟩⟩
          obtain ⟨zs, z1, z2, z3, z4⟩ := e4.vals
          refine RepAt.of_vals (RepL.mono he _ _ z3) (fun j y hj => ?_) z4
          have := z2 j y hj
          simp only [World.cell?, e1] at this
          simp only [World.cell?]
          rw [show (c.put w' r b').w.heap[(c.put w' r b').ι r]? = some (.cells arr T _) from hblk]
          exact this
        refine ⟨c.put w' r b', .value (.slice (some ⟨c.ι r, off, none⟩) n cap), _, ?_, .inl ⟨_, rfl, RepV.mono hext _ _ hx0⟩, hsim, hext, by rw [put_stE (show b'.st < c.nx from b2)]; exact hK⟩
        have hsh : c.w.shape? (c.ι r) = some (T, arr.size) := by simp only [World.shape?, e1]
        simp only [convert, Sem.run_bind, run_und hu, Result.andThen_ok, beq_self_eq_true, run_und he, markStringish, run_shape, hsh, run_freeze, Sem.run_pure]
        rfl
      · cases h
    · cases h
  · cases h

end
end Hb
end

section
set_option linter.unusedVariables false
set_option linter.unusedSimpArgs false
set_option linter.constructorNameAsVariable false
set_option autoImplicit false
set_option linter.unusedSimpArgs false
set_option linter.unusedVariables false
namespace Hb
open Go

section
variable {P : Prg} {c : Cx} {N : Nat} {ρ : Env} {a : Act} {K : AV → St → Prop}

/-- What holds behind an operation with target d. -/
def OpPost (P : Prg) (c : Cx) (N : Nat) (ρ : Env) (a : Act) (d : Option Nat) (K : AV → St → Prop) (a' : Act) (w' : World) : Prop :=
  ∃ (c' : Cx) (v : AV), c'.w = w' ∧ Sim P c' ∧ Ext c c' ∧ RepA c' N (ρ.put d v) a' ∧ K v c'.st ∧ ∃ u, a' = a.put d u

theorem run_callFunc_body {f : FuncId} (h : hasBody P f = true) (args : Array Value) (w : World) : (callFunc f args).run P w = .ok (.enter f args) w := by
  unfold hasBody at h
  cases hf : P.funcs[f]? with
  | none => rw [hf] at h; cases h
  | some fn =>
    rw [hf] at h
    simp only [Bool.and_eq_true, bne_iff_ne, ne_eq] at h
    obtain ⟨c, hb⟩ := Option.isSome_iff_exists.1 h.2
    simp [callFunc, hf, h.1, hb]

theorem compOp_defer {o : Oper} {x : XOp} (hc : compOp P o = some x) : ∀ d, o.op ≠ .defer d := by
  intro d hd
  simp [compOp, hd] at hc

theorem put_value {o : Oper} {l : Option Nat} {Q : Exit → Act → World → Prop} (hs : Sim P c) (ha : RepA c N ρ a) (hd : ∀ t, o.dst = some t → t < N) (hsem : o.semAt (Fw l).round a.eval = execOp a.eval o)
    (h : Stepped1 P c (execOp a.eval o) K) : o.wpIn (Fw l) 0 P a c.w (OpPost P c N ρ a o.dst K) Q := by
  obtain ⟨c', nx, v, hrun, hval, h3, h4, h5⟩ := h
  refine ⟨fun f _ => Fw_fn l f, ?_⟩
  rw [hsem, hrun]
  rcases hval with ⟨u, rfl, hu⟩ | ⟨rfl, rfl⟩
  · exact ⟨c', v, rfl, h3, h4, (ha.mono h4).put hu hd, h5, _, rfl⟩
  · refine ⟨c', .tup [], rfl, h3, h4, (ha.mono h4).put ?_ hd, h5, _, rfl⟩
    simp [RepV, RepL, undef]

theorem compOs_two {l : List Operand} {x y : XO} (h : compOs P l = some [x, y]) : ∃ p q, l = [p, q] ∧ compO P p = some x ∧ compO P q = some y := by
  cases l with
  | nil => simp [compOs] at h
  | cons p l =>
    simp only [compOs, Option.bind_eq_some_iff, Option.map_eq_some_iff] at h
    obtain ⟨a, ha, as, has, he⟩ := h
    cases he
    cases l with
    | nil => simp [compOs] at has
    | cons q l =>
      simp only [compOs, Option.bind_eq_some_iff, Option.map_eq_some_iff] at has
      obtain ⟨b, hb, bs, hbs, he⟩ := has
      cases he
      cases l with
      | nil => exact ⟨p, q, rfl, ha, hb⟩
      | cons r l =>
        simp only [compOs, Option.bind_eq_some_iff, Option.map_eq_some_iff] at hbs
        obtain ⟨_, _, _, _, he⟩ := hbs
        cases he

/-- An operation that is neither a call nor one of those that change the store. -/
theorem pure_value {o : Oper} {x : XOp} {v : AV} (hs : Sim P c) (ha : RepA c N ρ a) (hc : compOp P o = some x) (hx : xpure c.σ ρ.f x = some v) (hk : K v c.st) : Stepped1 P c (execOp a.eval o) K := by
  obtain ⟨u, h1, h2⟩ := xpure_sound hs ha.t hc hx
  exact ⟨c, _, v, h1, .inl ⟨u, rfl, h2⟩, hs, Ext.refl c, hk⟩

theorem pure_value' {o : Oper} {x : XOp} (hs : Sim P c) (ha : RepA c N ρ a) (hc : compOp P o = some x) (hx : match xpure c.σ ρ.f x with | some v => K v c.st | none => False) : Stepped1 P c (execOp a.eval o) K := by
  cases h : xpure c.σ ρ.f x with
  | none => rw [h] at hx; exact hx.elim
  | some v => rw [h] at hx; exact pure_value hs ha hc h hx

/-- What the call of a function of the program's comes to. -/
theorem call_sound {o : Oper} {l : Option Nat} {Q : Exit → Act → World → Prop} {g : FuncId} {args : List Value} {as : List AV} (hs : Sim P c) (ha : RepA c N ρ a) (hd : ∀ t, o.dst = some t → t < N) (hsem : o.semAt (Fw l).round a.eval = execOp a.eval o)
    (hrun : (execOp a.eval o).run P c.w = (callFunc g args.toArray).run P c.w) (hr : RepL c as args) (h : ACall P g as c.st K) : o.wpIn (Fw l) 0 P a c.w (OpPost P c N ρ a o.dst K) Q := by
  refine ⟨fun f _ => Fw_fn l f, ?_⟩
  rw [hsem, hrun, run_callFunc_body h.1]
  refine ⟨fun h => (by rw [Fw_depth] at h; cases h), ?_⟩
  have hcall := h.2 c args rfl hs hr
  have hcall' : CallsIn (Fw l) 0 P g args.toArray c.w fun e w' => ∃ (c' : Cx) (v : Value) (av : AV), e = .returned v ∧ c'.w = w' ∧ Sim P c' ∧ Ext c c' ∧ RepV c' av v ∧ K av c'.st := by
    cases l with
    | none => exact hcall
    | some l => exact hcall
  refine hcall'.mono ?_
  rintro e w' ⟨c', v, av, rfl, rfl, h3, h4, h5, h6⟩
  exact ⟨c', av, rfl, h3, h4, (ha.mono h4).put h5 hd, h6, _, rfl⟩

theorem Wrote.putObj {o : Obj} {b : Nat} {x : Obj} (h : c.w.heap[b]? = some x) (hx : ∀ arr T fz, x ≠ .cells arr T fz) : Wrote c b (c.w.putObj b o) :=
  ⟨fun y hy => World.putObj_heap_other hy, World.putObj_size, fun arr T fz he => by rw [h] at he; cases he; exact absurd rfl (hx arr T fz), rfl, rfl, rfl⟩

theorem putAll_rep {c : Cx} {N : Nat} : ∀ {ps : List Nat} {as : List AV} {vs : List Value} {ρ : Nat → AV} {tmps : Array Value}, RepT c N ρ tmps → RepL c as vs → (∀ p ∈ ps, p < N) →
    RepT c N (putAll ρ ps as) ((ps.zip vs).foldl (fun tmps (x : Nat × Value) => tmps.setIfInBounds x.1 x.2) tmps)
  | [], as, vs, ρ, tmps, ht, hr, hp => by simpa [putAll] using ht
  | p :: ps, [], vs, ρ, tmps, ht, hr, hp => by
    simp only [RepL] at hr
    subst hr
    simpa [putAll] using ht
  | p :: ps, x :: as, vs, ρ, tmps, ht, hr, hp => by
    simp only [RepL] at hr
    obtain ⟨v, vs', rfl, h1, h2⟩ := hr
    simp only [putAll, List.zip_cons_cons, List.foldl_cons]
    have := (RepA.put (c := c) (N := N) (ρ := ⟨ρ, []⟩) (a := ⟨tmps, []⟩) (d := some p) ⟨ht, by simp [RepDf]⟩ h1 (fun t h => by cases h; exact hp p (by simp))).t
    exact putAll_rep (tmps := tmps.setIfInBounds p v) this h2 fun q hq => hp q (by simp [hq])

theorem put_st {c : Cx} {w' : World} {r st : Nat} {state : LoopState} {pe : Option XExit} {N' : Nat} {ρl : Nat → AV} {ps : List Nat} {xa xb : XC} {dr ds : Nat} (h : st < c.nx) :
    (c.put w' r (.loop st state pe N' ρl ps xa xb dr ds)).st = (c.σ.set r (some (.loop st state pe N' ρl ps xa xb dr ds)), c.nx) := by
  simp only [Cx.st, Cx.put, Blk.st, Nat.max_eq_left (Nat.succ_le_of_lt h)]

/-- A loop's record, as it is and as it is made. -/
theorem loop_put {r st st0 : Nat} {state : LoopState} {pe : Option XExit} {N' : Nat} {ρl : Nat → AV} {ps : List Nat} {xa xb : XC} {dr ds : Nat} (hs : Sim P c) (hat : c.σ.at r st = some (.loop st0 state pe N' ρl ps xa xb dr ds)) :
    ∃ lr : Loop, c.w.heap[c.ι r]? = some (.loop lr) ∧ lr.state = state ∧ lr.pending = pe.bind XExit.code ∧ st < c.nx ∧ ∀ (state' : LoopState) (pe' : Option XExit),
      Sim P (c.put (c.w.putObj (c.ι r) (.loop { lr with state := state', pending := pe'.bind XExit.code })) r (.loop st state' pe' N' ρl ps xa xb dr ds)) ∧
      Ext c (c.put (c.w.putObj (c.ι r) (.loop { lr with state := state', pending := pe'.bind XExit.code })) r (.loop st state' pe' N' ρl ps xa xb dr ds)) := by
  obtain ⟨g1, g2⟩ := Store.at_some hat
  obtain ⟨b1, b2⟩ := hs.blk r _ g1
  simp only [BlkRep] at b1
  obtain ⟨lr, e1, e2, e3, e5, e6, e7, e8, e9, e10, e11⟩ := b1
  refine ⟨lr, e1, e2, e3, by rw [← g2]; exact b2, fun state' pe' => ?_⟩
  have hw : Wrote c (c.ι r) (c.w.putObj (c.ι r) (.loop { lr with state := state', pending := pe'.bind XExit.code })) := Wrote.putObj e1 (fun _ _ _ h => by cases h)
  have hst : (Blk.loop st state' pe' N' ρl ps xa xb dr ds).st < c.nx → (Blk.loop st state' pe' N' ρl ps xa xb dr ds).st = (Blk.loop st0 state pe N' ρl ps xa xb dr ds).st := fun _ => g2.symm
  have he := Ext.put hs g1 rfl rfl hw hst
  refine ⟨Sim.put hs g1 rfl rfl hw hst fun he => ?_, he⟩
  simp only [BlkRep]
  refine ⟨{ lr with state := state', pending := pe'.bind XExit.code }, ?_, rfl, rfl, e5.mono he, e6, e7, e8, e9, Nat.lt_of_lt_of_le e10 he.nx, fun b hb hv => ?_⟩
  · exact World.putObj_heap_same (Array.getElem?_eq_some_iff.1 e1).1
  · obtain ⟨blk, q1, q2, q3⟩ := he.at e10 hb
    rw [q3 (q2.trans hv)]
    exact e11 blk q1 (q2.trans hv)

/-- A call of yield. -/
theorem round_sound {l : Option Nat} {Q : Exit → Act → World → Prop} {f : Operand} {fo : XO} {args : Array Operand} {as : List XO} {ats : Array TypeId} {r st : Nat} (hs : Sim P c) (ha : RepA c N ρ a) {dst : Option Nat} {ty : TypeId} {pos : String} {after : Array Edge} {guard : Option (Nat × Bool)}
    (hd : ∀ t, dst = some t → t < N) (hsem : (⟨dst, .call ⟨.value f, args, ats⟩, ty, pos, after, guard⟩ : Oper).semAt (Fw l).round a.eval = execOp a.eval ⟨dst, .call ⟨.value f, args, ats⟩, ty, pos, after, guard⟩)
    (hfo : compO P f = some fo) (has : compOs P args.toList = some as) (r1 : RepV c (.fy r st) (a.eval f)) (h : ARound P r st (as.map (XO.ev ρ.f)) c.st K) :
    (⟨dst, .call ⟨.value f, args, ats⟩, ty, pos, after, guard⟩ : Oper).wpIn (Fw l) 0 P a c.w (OpPost P c N ρ a dst K) Q := by
  have r2 := compOs_rep hs ha.t has
  unfold ARound at h
  split at h
  · rename_i st' pe N' ρl ps xa xb dr ds hat
    obtain ⟨hlen, h⟩ := h
    obtain ⟨g1, g2⟩ := Store.at_some hat
    obtain ⟨b1, b2⟩ := hs.blk r _ g1
    simp only [BlkRep] at b1
    obtain ⟨lr, e1, e2, e3, e5, e6, ⟨h7, e7, o7⟩, ⟨h8, e8, o8⟩, e9, e10, e11⟩ := b1
    simp only [RepV] at r1
    obtain ⟨⟨l0, hv0⟩, hst, hr1⟩ := r1
    have hv := hr1 _ hat rfl
    have hargs : args.size = lr.params.size := by
      have := r2.length
      rw [hlen, ← e6] at this
      simpa using this.symm
    have hrun : (execOp a.eval ⟨dst, .call ⟨.value f, args, ats⟩, ty, pos, after, guard⟩).run P c.w =
        .ok (.round (c.ι r) lr.fn ((lr.params.zip (args.map a.eval)).foldl (fun tmps (x : Nat × Value) => tmps.setIfInBounds x.1 x.2) lr.tmps) lr.assign lr.body) c.w := by
      simp only [execOp, resolve, hv, Deferred.ofValue, Sem.run_bind, Sem.run_pure, Result.andThen_ok, invoke]
      have := run_yield (P := P) (l := c.ι r) (args := #[] ++ args.map a.eval) e1 (by simpa using hargs)
      rw [this]
      simp
    refine ⟨fun f _ => Fw_fn l f, ?_⟩
    rw [hsem, hrun]
    refine ⟨fun h => (by rw [Fw_depth] at h; cases h), ?_⟩
    have hF : (Fw l).inRound (c.ι r) = Fw (some (c.ι r)) := by cases l <;> rfl
    refine roundIn_of_wpIn (Fw_fn l _) ?_
    rw [hF]
    have hrd : RdRep c (some (r, st)) (some (c.ι r)) := ⟨hst, fun blk hb hv => rfl⟩
    have hrepA : RepA c N' ⟨putAll ρl ps (as.map (XO.ev ρ.f)), []⟩ { tmps := (lr.params.zip (args.map a.eval)).foldl (fun tmps (x : Nat × Value) => tmps.setIfInBounds x.1 x.2) lr.tmps, defers := [] } := by
      refine ⟨?_, by simp [RepDf]⟩
      have := putAll_rep (tmps := lr.tmps) e5 r2 (ps := ps) e9
      simp only
      rw [← Array.foldl_toList, Array.toList_zip, e6, Array.toList_map]
      exact this
    refine wpIn_mono (h o7 o8 o7.un h7 lr.assign e7 c _ (some (c.ι r)) rfl hs hrepA hrd) ?_
    rintro e a1 w1 ⟨c1, ρ1, e', rfl, k2, k3, k4, rfl, k6⟩
    unfold RoundMid at k6
    split at k6
    · rename_i st1 pe1 N1 ρl1 ps1 xa1 xb1 dr1 ds1 hat1
      obtain ⟨_, _, _, hι1⟩ := k3.at hst hat1
      have hι1 : c1.ι r = c.ι r := by
        obtain ⟨blk, q1, q2, q3⟩ := k3.at hst hat1
        exact q3 q2
      obtain ⟨lr1, f1, f2, f3, fst, f4⟩ := loop_put k2 hat1
      obtain ⟨s2, x2⟩ := f4 .busy pe1
      rw [hι1] at f1 s2 x2
      have hpend : ({ lr1 with state := .busy, pending := pe1.bind XExit.code } : Loop) = { lr1 with state := .busy } := by
        rw [← f3]
      rw [hpend] at s2 x2
      refine ⟨_, run_beginRound f1 f2, ?_⟩
      have x02 := k3.trans x2
      refine wpIn_mono (k6 o8.un h8 lr.body e8 _ a1 (some (c.ι r)) (put_st fst) s2 (k4.mono x2) (hrd.mono x02)) ?_
      rintro e a2 w2 ⟨c3, ρ3, e3', rfl, m2, m3, m4, rfl, m6⟩
      unfold RoundEnd at m6
      split at m6
      · rename_i st3 stt3 pe3 N3 ρl3 ps3 xa3 xb3 dr3 ds3 hat3
        have x03 := x02.trans m3
        have hι3 : c3.ι r = c.ι r := by
          obtain ⟨blk, q1, q2, q3⟩ := x03.at hst hat3
          exact q3 q2
        obtain ⟨lr3, p1, p2, p3, pst, p4⟩ := loop_put m2 hat3
        rw [hι3] at p1 p4
        have fin : ∀ (b : Bool) (jump : Option Code) (state' : LoopState) (pe' : Option XExit), pe'.bind XExit.code = jump → (state' = if jump.isNone then .ready else .done) → b = jump.isNone →
            K (.b b) (c3.σ.set r (some (.loop st state' pe' N3 ρl3 ps3 xa3 xb3 dr3 ds3)), c3.nx) →
            ∃ v w', (Instr.endRound (c.ι r) jump).run P c3.w = .ok v w' ∧ OpPost P c N ρ a dst K (a.put dst v) w' := by
          intro b jump state' pe' h1 h2 h3 h4
          subst h1 h3
          obtain ⟨s4, x4⟩ := p4 state' pe'
          refine ⟨_, _, run_endRound _ p1, ?_⟩
          rw [← h2]
          exact ⟨_, .b (pe'.bind XExit.code).isNone, rfl, s4, x03.trans x4, (ha.mono (x03.trans x4)).put (by simp only [RepV]) hd, (by rw [put_st pst]; exact h4), _, rfl⟩
        cases e3' with
        | normal => exact fin true none .ready none rfl rfl rfl m6
        | exit id => exact fin false (some (.exit id)) .done (some (.exit id)) rfl rfl rfl m6
        | ret => exact fin false (some .ret) .done (some .ret) rfl rfl rfl m6
      · exact m6.elim
    · exact k6.elim
  · exact h.elim

set_option maxHeartbeats 2000000 in
theorem op_sound {o : Oper} {x : XOp} {l : Option Nat} {Q : Exit → Act → World → Prop} (hs : Sim P c) (ha : RepA c N ρ a) (hd : ∀ t, o.dst = some t → t < N) (hc : compOp P o = some x) (h : XStep P x ρ.f c.st K) :
    o.wpIn (Fw l) 0 P a c.w (OpPost P c N ρ a o.dst K) Q := by
  have hsem : o.semAt (Fw l).round a.eval = execOp a.eval o := Oper.semAt_eq _ _ _ (compOp_defer hc)
  have hc0 := hc
  obtain ⟨dst, op, type, pos, after, guard⟩ := o
  have gen : (match xpure c.σ ρ.f x with | some v => K v c.st | none => False) → (⟨dst, op, type, pos, after, guard⟩ : Oper).wpIn (Fw l) 0 P a c.w (OpPost P c N ρ a dst K) Q :=
    fun hx => put_value hs ha hd hsem (pure_value' hs ha hc0 hx)
  cases op <;> simp only [compOp] at hc
  case alloc e =>
    simp only [Option.map_eq_some_iff] at hc
    obtain ⟨z, hz, rfl⟩ := hc
    exact put_value hs ha hd hsem (step_alloc hs hz h)
  case box e y =>
    simp only [Option.map_eq_some_iff] at hc
    obtain ⟨z, hz, rfl⟩ := hc
    simp only [XStep] at h
    cases hcs : (z.ev ρ.f).cells with
    | none => rw [hcs] at h; exact h.elim
    | some cs => rw [hcs] at h; exact put_value hs ha hd hsem (step_box hs (compO_rep hs ha.t hz) hcs h)
  case buildSlice t n ps =>
    split at hc
    · rename_i e hu
      simp only [Option.bind_eq_some_iff] at hc
      obtain ⟨k, hk, z, hz, hc⟩ := hc
      split at hc
      · rename_i hcond
        obtain ⟨q1, q2, q3, q4⟩ := hcond
        simp only [Option.map_eq_some_iff] at hc
        obtain ⟨l', hl, rfl⟩ := hc
        simp only [XStep] at h
        cases hf : fillA ρ.f ((List.range (n * k)).map fun j => (z[j % z.length]?).getD .u) l' with
        | none => rw [hf] at h; exact h.elim
        | some cs => rw [hf] at h; exact put_value hs ha hd hsem (step_lit hs ha.t hu hk hz q1 q2 q3 q4 hl hf h)
      · split at hc
        · rename_i hcond
          obtain ⟨rfl, rfl⟩ := hcond
          cases hc
          refine put_value hs ha hd hsem ?_
          obtain ⟨c', nx, v, e1, e2⟩ := step_lit0 (K := K) hs hu hk h
          refine ⟨c', nx, v, ?_, e2⟩
          rw [← e1]
          simp [execOp]
        · cases hc
    · cases hc
  case store t p y =>
    simp only [Option.bind_eq_some_iff, Option.map_eq_some_iff] at hc
    obtain ⟨n, hn, ao, hao, xo, hxo, rfl⟩ := hc
    simp only [XStep] at h
    cases hcs : (xo.ev ρ.f).cells with
    | none => rw [hcs] at h; exact h.elim
    | some cs =>
      rw [hcs] at h
      simp only at h
      cases hst : storeAt c.st.1 (ao.ev ρ.f) n cs with
      | none => rw [hst] at h; exact h.elim
      | some σ' => rw [hst] at h; exact put_value hs ha hd hsem (step_store hs hn (compO_rep hs ha.t hao) (compO_rep hs ha.t hxo) hcs hst h)
  case makeSlice t le ca =>
    split at hc
    · rename_i e hu
      split at hc
      · rename_i i z hi hz
        split at hc
        · rename_i hcond
          obtain ⟨q1, q2, q3⟩ := hcond
          simp only [Option.bind_eq_some_iff, Option.map_eq_some_iff] at hc
          obtain ⟨lo, hlo, co, hco, rfl⟩ := hc
          have r1 := compO_rep hs ha.t hlo
          have r2 := compO_rep hs ha.t hco
          simp only [XStep] at h
          split at h
          · rename_i l0 c0 e1 e2
            obtain ⟨h1, h2, h3, h4⟩ := h
            rw [e1] at r1
            rw [e2] at r2
            simp only [RepV] at r1 r2
            refine put_value hs ha hd hsem ?_
            simp only [execOp, r1, r2]
            exact step_mksl hs hu hi q1 hz q2 q3 h1 h2 h3 h4
          · exact h.elim
        · cases hc
      · cases hc
    · cases hc
  case convert s d y =>
    simp only [Option.bind_eq_some_iff] at hc
    obtain ⟨xo, hxo, hc⟩ := hc
    have hr := compO_rep hs ha.t hxo
    by_cases hb : ∃ T, x = .conv (.s2b T) xo
    · obtain ⟨T, rfl⟩ := hb
      simp only [XStep] at h
      split at h
      · rename_i bl e1
        rw [e1] at hr
        simp only [RepV] at hr
        refine put_value hs ha hd hsem ?_
        have hT : P.underlying s = some .string ∧ P.underlying d = some (.slice T) ∧ P.underlying T = some (.int .u8) := by
          unfold compConv at hc
          split at hc <;> try cases hc
          · split at hc
            · rename_i a1 a2 a3
              cases hc
              exact ⟨by assumption, by assumption, by assumption⟩
            · cases hc
          all_goals ((repeat' split at hc) <;> cases hc)
        obtain ⟨t1, t2, t3⟩ := hT
        have hst := step_s2b (P := P) (e := T) (l := bl) hs hr.2 h
        obtain ⟨c', nx, v, e1, e2⟩ := hst
        refine ⟨c', nx, v, ?_, e2⟩
        rw [← e1]
        simp only [execOp, hr, convert, Sem.run_bind, run_und t1, run_und t2, run_und t3, Result.andThen_ok]
      · exact h.elim
    · by_cases hm : ∃ z, x = .mks z
      · obtain ⟨z, rfl⟩ := hm
        have hT : z = xo ∧ s = d ∧ ∃ e, P.underlying s = some (.slice e) ∧ P.underlying e = some (.int .u8) := by
          unfold compConv at hc
          split at hc <;> try cases hc
          all_goals try (split at hc <;> try cases hc)
          all_goals try (split at hc <;> try cases hc)
          rename_i e _ h1 _ h2 _ h3
          exact ⟨rfl, h2, e, h1, h3⟩
        obtain ⟨rfl, rfl, e, hu1, hu2⟩ := hT
        simp only [XStep] at h
        split at h
        · rename_i σ' hσ
          exact put_value hs ha hd hsem (step_mks hs hu1 hu2 hσ hr h)
        · exact h.elim
      apply gen
      unfold compConv at hc
      split at hc <;> try cases hc
      · exact h
      · exact h
      · split at hc
        · cases hc; exact absurd ⟨_, rfl⟩ hb
        · cases hc
      all_goals ((repeat' split at hc) <;> first
        | (cases hc; done)
        | (cases hc; exact h)
        | (cases hc; exact absurd ⟨_, rfl⟩ hm))
  case call cl =>
    obtain ⟨callee, args, argTypes⟩ := cl
    simp only [compCall] at hc
    cases callee with
    | value f =>
      simp only [Option.bind_eq_some_iff, Option.map_eq_some_iff] at hc
      obtain ⟨fo, hfo, as, has, rfl⟩ := hc
      have r1 := compO_rep hs ha.t hfo
      have r2 := compOs_rep hs ha.t has
      simp only [XStep] at h
      split at h
      · rename_i g first cap e1
        rw [e1] at r1
        simp only [RepV] at r1
        obtain ⟨f', c', hv, hf1, hc1⟩ := r1
        have hrun : (execOp a.eval ⟨dst, .call ⟨.value f, args, argTypes⟩, type, pos, after, guard⟩).run P c.w = (callFunc g (f'.toList ++ args.toList.map a.eval ++ c'.toList).toArray).run P c.w := by
          simp only [execOp, resolve, hv, Deferred.ofValue, Sem.run_bind, Sem.run_pure, Result.andThen_ok, invoke]
          congr 2
          simp
        rcases h with h | h
        · exact call_sound (args := f'.toList ++ args.toList.map a.eval ++ c'.toList) hs ha hd hsem hrun ((hf1.append r2).append hc1) h
        · refine put_value hs ha hd hsem ?_
          obtain ⟨c1, u, av, a1, a2, a3, a4, a5⟩ := h c _ rfl hs ((hf1.append r2).append hc1)
          exact ⟨c1, _, av, by rw [hrun, a1], .inl ⟨u, rfl, a4⟩, a2, a3, a5⟩
      · rename_i r st e1
        rw [e1] at r1
        exact round_sound hs ha hd hsem hfo has r1 h
      · exact h.elim
    | builtin b =>
      cases b <;> simp only at hc
      case append =>
        split at hc
        · rename_i t u ht0 hu0
          have app : ∀ {e : TypeId}, P.underlying t = some (.slice e) → SrcT P u →
              (match P.info? e, tzero P e with
                | some i, some z => if i.bytes ≤ 4096 ∧ z.length = i.size then (compOs P args.toList).map fun as => XOp.bi (.append e i.size z) as else none
                | _, _ => none) = some x → (⟨dst, .call ⟨.builtin .append, args, argTypes⟩, type, pos, after, guard⟩ : Oper).wpIn (Fw l) 0 P a c.w (OpPost P c N ρ a dst K) Q := by
            intro e hte hue hc
            split at hc
            · rename_i i z hi hz
              split at hc
              · rename_i hcond
                simp only [Option.map_eq_some_iff] at hc
                obtain ⟨as, has, rfl⟩ := hc
                by_cases h2 : ∃ x y, as = [x, y]
                · obtain ⟨xo, yo, rfl⟩ := h2
                  obtain ⟨p, q, hargs, hp, hq⟩ := compOs_two has
                  have hargs' : args = #[p, q] := by
                    apply Array.ext'
                    rw [hargs]
                  subst hargs'
                  simp only [XStep] at h
                  cases hcs : cellsOfSlice c.st.1 i.size (yo.ev ρ.f) with
                  | none => rw [hcs] at h; exact h.elim
                  | some mn =>
                    obtain ⟨m, new⟩ := mn
                    rw [hcs] at h
                    refine put_value hs ha hd hsem ?_
                    have := step_append (K := K) (ty := type) hs hte hue hi hcond.1 hz hcond.2 (compO_rep hs ha.t hp) (compO_rep hs ha.t hq) hcs h
                    obtain ⟨c', nx, v, e1, e2⟩ := this
                    refine ⟨c', nx, v, ?_, e2⟩
                    rw [← e1]
                    have hap : Builtin.append_ argTypes type #[a.eval p, a.eval q] = Builtin.append_ #[t, u] type #[a.eval p, a.eval q] := by
                      simp only [Builtin.append_, ht0, hu0]
                      rfl
                    simp [execOp, resolve, invoke, builtin, hap]
                · apply gen
                  match as, h, h2 with
                  | [], h, _ => exact h
                  | [_], h, _ => exact h
                  | [x, y], _, h2 => exact absurd ⟨x, y, rfl⟩ h2
                  | _ :: _ :: _ :: _, h, _ => exact h
              · cases hc
            · cases hc
          split at hc
          · rename_i e e' hte hue
            exact app hte (.inl ⟨_, hue⟩) hc
          · rename_i e hte hue
            exact app hte (.inr hue) hc
          · cases hc
        · cases hc
      case len =>
        split at hc
        · split at hc
          · simp only [Option.map_eq_some_iff] at hc
            obtain ⟨as, has, rfl⟩ := hc
            exact gen h
          · simp only [Option.map_eq_some_iff] at hc
            obtain ⟨as, has, rfl⟩ := hc
            exact gen h
          · split at hc
            · simp only [Option.map_eq_some_iff] at hc
              obtain ⟨xo, hxo, rfl⟩ := hc
              exact gen h
            · cases hc
          · cases hc
        · cases hc
      case delete =>
        split at hc
        · rename_i t t2 p q hts hargs
          split at hc
          · rename_i kt et hu
            simp only [Option.bind_eq_some_iff, Option.map_eq_some_iff] at hc
            obtain ⟨str, hk, xo, hxo, io, hio, rfl⟩ := hc
            simp only [XStep] at h
            split at h
            · rename_i σ' hσ
              refine put_value hs ha hd hsem ?_
              have hargs' : args = #[p, q] := by apply Array.ext'; rw [hargs]
              have hts' : argTypes[0]? = some t := by rw [← Array.getElem?_toList, hts]; rfl
              obtain ⟨c', nx, v, e1, e2⟩ := step_mdel (K := K) (ty := type) hs hts' hu hk hσ (compO_rep hs ha.t hxo) (compO_rep hs ha.t hio) h
              refine ⟨c', nx, v, ?_, e2⟩
              rw [← e1]
              subst hargs'
              simp [execOp, resolve, invoke, builtin]
            · exact h.elim
          · cases hc
        · cases hc
      case clear =>
        split at hc
        · rename_i t p hts hargs
          split at hc
          · rename_i e hu
            simp only [Option.bind_eq_some_iff] at hc
            obtain ⟨k, hk, z, hz, hc⟩ := hc
            split at hc
            · rename_i hcond
              simp only [Option.map_eq_some_iff] at hc
              obtain ⟨xo, hxo, rfl⟩ := hc
              simp only [XStep] at h
              split at h
              · rename_i σ' hσ
                refine put_value hs ha hd hsem ?_
                have hargs' : args = #[p] := by apply Array.ext'; rw [hargs]
                have hts' : argTypes[0]? = some t := by rw [← Array.getElem?_toList, hts]; rfl
                obtain ⟨c', nx, v, e1, e2⟩ := step_clr (K := K) (ty := type) hs hts' hu hz hcond.1 hcond.2 hσ (compO_rep hs ha.t hxo) h
                refine ⟨c', nx, v, ?_, e2⟩
                rw [← e1]
                subst hargs'
                simp [execOp, resolve, invoke, builtin]
              · exact h.elim
            · cases hc
          · cases hc
        · cases hc
      case unsafeSliceData =>
        split at hc
        · split at hc
          · simp only [Option.map_eq_some_iff, Option.bind_eq_some_iff] at hc
            obtain ⟨k, hk, as, has, rfl⟩ := hc
            exact gen h
          · cases hc
        · cases hc
      case unsafeString =>
        split at hc
        · rename_i t it hts
          split at hc
          · rename_i e hue
            split at hc
            · rename_i hsz
              simp only [Option.map_eq_some_iff] at hc
              obtain ⟨as, has, rfl⟩ := hc
              by_cases h2 : ∃ x y, as = [x, y]
              · obtain ⟨xo, yo, rfl⟩ := h2
                obtain ⟨p, q, hargs, hp, hq⟩ := compOs_two has
                have hargs' : args = #[p, q] := by
                  apply Array.ext'
                  rw [hargs]
                have hts' : argTypes = #[t, it] := by
                  apply Array.ext'
                  rw [hts]
                subst hargs' hts'
                simp only [XStep] at h
                have ry := compO_rep hs ha.t hq
                split at h
                · rename_i m hm
                  rw [hm] at ry
                  simp only [RepV] at ry
                  cases hus : ustrAt c.st.1 e (xo.ev ρ.f) m with
                  | none => rw [hus] at h; exact h.elim
                  | some lm =>
                    obtain ⟨l0, σ'⟩ := lm
                    rw [hus] at h
                    refine put_value hs ha hd hsem ?_
                    have := step_ustr (K := K) (it := it) (ty := type) hs hue hsz (compO_rep hs ha.t hp) hus h
                    obtain ⟨c', nx, v, e1, e2⟩ := this
                    refine ⟨c', nx, v, ?_, e2⟩
                    rw [← e1]
                    simp [execOp, resolve, invoke, builtin, ry]
                · exact h.elim
              · apply gen
                match as, h, h2 with
                | [], h, _ => exact h
                | [_], h, _ => exact h
                | [x, y], _, h2 => exact absurd ⟨x, y, rfl⟩ h2
                | _ :: _ :: _ :: _, h, _ => exact h
            · cases hc
          · cases hc
        · cases hc
      case cap =>
        split at hc
        · split at hc
          · simp only [Option.map_eq_some_iff] at hc
            obtain ⟨as, has, rfl⟩ := hc
            exact gen h
          · cases hc
        · cases hc
      case copy =>
        split at hc
        · split at hc
          · simp only [Option.map_eq_some_iff, Option.bind_eq_some_iff] at hc
            obtain ⟨k, hk, as, has, rfl⟩ := hc
            exact gen h
          · cases hc
        · cases hc
      case min =>
        simp only [Option.map_eq_some_iff] at hc
        obtain ⟨as, has, rfl⟩ := hc
        exact gen h
      case max =>
        simp only [Option.map_eq_some_iff] at hc
        obtain ⟨as, has, rfl⟩ := hc
        exact gen h
      all_goals cases hc
    | invoke r n => cases hc
  case next it b =>
    cases b with
    | false =>
      simp only [Option.map_eq_some_iff] at hc
      obtain ⟨y, hy, rfl⟩ := hc
      have hr := compO_rep hs ha.t hy
      simp only [XStep] at h
      split at h
      · rename_i r st e1
        rw [e1] at hr
        split at h
        · rename_i st' rm sm since last seen hat
          split at h
          · rename_i st2 ck es hm
            split at h
            · rename_i l0 hl0
              exact put_value hs ha hd hsem (step_nextm hs hr hat hm hl0 h)
            · exact h.elim
          · exact h.elim
        · rename_i st' ck bs ks seen hat
          split at h
          · rename_i l0 hl0
            exact put_value hs ha hd hsem (step_nextmi hs hr hat hl0 h)
          · exact h.elim
        · exact h.elim
      · exact h.elim
    | true =>
      simp only [Option.map_eq_some_iff] at hc
      obtain ⟨y, hy, rfl⟩ := hc
      have hr := compO_rep hs ha.t hy
      simp only [XStep] at h
      split at h
      · rename_i r st e1
        rw [e1] at hr
        split at h
        · rename_i st' l0 pos hat
          exact put_value hs ha hd hsem (step_next hs hr hat h)
        · exact h.elim
      · exact h.elim
  case range t y =>
    split at hc
    · rename_i hu
      simp only [Option.map_eq_some_iff] at hc
      obtain ⟨xo, hxo, rfl⟩ := hc
      have hr := compO_rep hs ha.t hxo
      simp only [XStep] at h
      split at h
      · rename_i l0 e1
        rw [e1] at hr
        simp only [RepV] at hr
        refine put_value hs ha hd hsem ?_
        have := step_rng (P := P) hs hr.2 hu h
        simp only [execOp, hr.1]
        exact this
      · exact h.elim
    · rename_i kt et hu
      simp only [Option.map_eq_some_iff] at hc
      obtain ⟨xo, hxo, rfl⟩ := hc
      have hr := compO_rep hs ha.t hxo
      simp only [XStep] at h
      split at h
      · rename_i r st e1
        rw [e1] at hr
        split at h
        · rename_i st' ck es hat
          exact put_value hs ha hd hsem (step_rngm hs hu hr hat h)
        · exact h.elim
      · rename_i ck bs ks e1
        rw [e1] at hr
        exact put_value hs ha hd hsem (step_rngmi hs hu hr h)
      · exact h.elim
    · cases hc
  case makeMap t r =>
    cases r with
    | none =>
      simp only [Option.some.injEq] at hc
      subst hc
      exact put_value hs ha hd hsem (step_mkm hs h)
    | some r => cases hc
  case lookup t y i ok =>
    split at hc
    · simp only [Option.map_eq_some_iff, Option.bind_eq_some_iff] at hc
      obtain ⟨_, _, _, _, _, _, _, _, rfl⟩ := hc
      exact gen h
    · cases hc
  case mapUpdate t y i vv =>
    split at hc
    · rename_i kt et hu
      simp only [Option.map_eq_some_iff, Option.bind_eq_some_iff] at hc
      obtain ⟨str, hk, xo, hxo, io, hio, vo, hvo, rfl⟩ := hc
      simp only [XStep] at h
      split at h
      · rename_i σ' hσ
        exact put_value hs ha hd hsem (step_mset hs hu hk hσ (compO_rep hs ha.t hxo) (compO_rep hs ha.t hio) (compO_rep hs ha.t hvo) h)
      · exact h.elim
    · cases hc
  case insert t y i vv =>
    split at hc
    · rename_i kt et hu
      simp only [Option.map_eq_some_iff, Option.bind_eq_some_iff] at hc
      obtain ⟨str, hk, xo, hxo, io, hio, vo, hvo, rfl⟩ := hc
      simp only [XStep] at h
      split at h
      · rename_i σ' hσ
        exact put_value hs ha hd hsem (step_mset hs hu hk hσ (compO_rep hs ha.t hxo) (compO_rep hs ha.t hio) (compO_rep hs ha.t hvo) h)
      · exact h.elim
    · cases hc
  all_goals cases x <;> first
    | exact gen h
    | (exfalso; simp [Option.map_eq_some_iff, Option.bind_eq_some_iff] at hc; done)
    | (exfalso; (repeat' split at hc) <;> simp [Option.map_eq_some_iff, Option.bind_eq_some_iff] at hc; done)
    | (exfalso; unfold compBin at hc; simp only [Option.bind_eq_some_iff] at hc; obtain ⟨_, _, _, _, hc⟩ := hc; (repeat' split at hc) <;> simp at hc; done)
    | skip

end
end Hb
end

section
set_option linter.unusedVariables false
set_option linter.unusedSimpArgs false
set_option linter.constructorNameAsVariable false
set_option autoImplicit false
set_option linter.unusedSimpArgs false
set_option linter.unusedVariables false
namespace Hb
open Go

/-! ## Regions -/

section
variable (P : Prg)

/-- One operation of a region, guarded or not. -/
def XOne (o : XOper) (ρ : Env) (σ : St) (K : AV → St → Prop) : Prop :=
  match o.guard with
  | none => XStep P o.op ρ.f σ K
  | some (t, want) => match ρ.f t with
    | .b y => if y = want then XStep P o.op ρ.f σ K else K (.tup []) σ
    | .tup [] => K (.tup []) σ
    | _ => False

/-- The operations of a region, in the order in which they stand. -/
def XGo : List XOper → Env → St → (Env → St → Prop) → Prop
  | [], ρ, σ, Q => Q ρ σ
  | o :: l, ρ, σ, Q => XOne P o ρ σ fun v σ' => XGo l (ρ.put o.dst v) σ' Q

/-- It comes to the same again. -/
def Again (o : XOper) (ρ : Env) (σ : St) : Prop := XOne P o ρ σ fun v σ' => σ' = σ ∧ ∀ d, o.dst = some d → v = ρ.f d

def AgainL : List XOper → Env → St → Prop
  | [], _, _ => True
  | o :: l, ρ, σ => Again P o ρ σ ∧ AgainL l ρ σ

/-- A region that draws its order. -/
def XTree : DT → Env → St → (Env → St → Prop) → Prop
  | .done, ρ, σ, Q => Q ρ σ
  | .one o t, ρ, σ, Q => XOne P o ρ σ fun v σ' => XTree t (ρ.put o.dst v) σ' Q
  | .act o ag t alt, ρ, σ, Q => (XOne P o ρ σ fun v σ' => AgainL P ag (ρ.put o.dst v) σ' ∧ XTree t (ρ.put o.dst v) σ' Q) ∧ XTree alt ρ σ Q
  | .stop, _, _, _ => True
end

section
variable {P : Prg} {c : Cx} {N : Nat} {ρ : Env} {σ : St} {a : Act} {K : AV → St → Prop}

theorem AgainL_mem : ∀ {l : List XOper} {o : XOper}, AgainL P l ρ σ → o ∈ l → Again P o ρ σ
  | _ :: _, _, h, .head _ => h.1
  | _ :: _, _, h, .tail _ hm => AgainL_mem h.2 hm

theorem tmps_none (ht : RepT c N ρ.f a.tmps) {t : Nat} (h : ρ.f t = .tup []) : a.tmps[t]? = none ∨ a.tmps[t]? = some (.tuple #[]) := by
  have h1 := ht.2 t
  rw [h] at h1
  simp only [RepV, RepL] at h1
  obtain ⟨cs, h1, h2⟩ := h1
  rw [Array.getD_eq_getD_getElem?] at h1
  cases hc : a.tmps[t]? with
  | none => exact .inl rfl
  | some v =>
    right
    rw [hc] at h1
    simp only [Option.getD_some] at h1
    rw [h1]
    congr 2
    exact Array.toList_inj.1 (by simpa using h2)

theorem tmps_some (ht : RepT c N ρ.f a.tmps) {t : Nat} {y : Bool} (h : ρ.f t = .b y) : a.tmps[t]? = some (.bool y) := by
  have h1 := ht.2 t
  rw [h] at h1
  simp only [RepV] at h1
  rw [Array.getD_eq_getD_getElem?] at h1
  cases hc : a.tmps[t]? with
  | none => rw [hc] at h1; simp [undef] at h1
  | some v => rw [hc] at h1; simpa using h1

/-- One operation of a region. -/
theorem one_sound {ops : Array Oper} {o : Oper} {x : XOper} {i : Nat} {l : Option Nat} {Q : Exit → Act → World → Prop} {K' : Act → World → Prop} (hs : Sim P c) (ha : RepA c N ρ a) (hc : compOper P N ops o = some x) (hi : ops[i]? = some o) (h : XOne P x ρ c.st K)
    (hk : ∀ a' w', OpPost P c N ρ a x.dst K a' w' → K' a' w') : wpOpIn (Fw l) 0 P ops Q i K' a c.w := by
  unfold compOper at hc
  have step : ∀ {K : AV → St → Prop} {Q : Exit → Act → World → Prop}, (∀ t, o.dst = some t → t < N) → XStep P ((compOp P o).getD .bad) ρ.f c.st K → o.wpIn (Fw l) 0 P a c.w (OpPost P c N ρ a o.dst K) Q := by
    intro K Q hd h
    cases hx : compOp P o with
    | none => rw [hx] at h; exact h.elim
    | some x => rw [hx] at h; exact op_sound hs ha hd hx h
  split at hc
  · rename_i hd
    have hd' : ∀ t, o.dst = some t → t < N := by
      intro t ht
      rw [ht] at hd
      simpa using hd
    unfold wpOpIn
    simp only [hi]
    have hab : ∀ f, o.about P c.w a.eval = some f → (Fw l).fn f := fun f _ => Fw_fn l f
    split at hc
    · rename_i hg
      cases hc
      simp only [XOne] at h
      have hw : Region.wanted o (yielded ops a.tmps) = true := by simp [Region.wanted, hg]
      simp only [hw, if_true]
      exact Oper.wpIn_mono hk (step hd' h)
    · rename_i j want hg
      simp only [Option.map_eq_some_iff] at hc
      obtain ⟨d, hjd, hc⟩ := hc
      cases hc
      simp only [XOne] at h
      split at h
      · rename_i y hy
        have hyd : yielded ops a.tmps j = some y := by
          unfold yielded
          rw [hjd]
          simp only [Option.bind_some]
          rw [tmps_some ha.t hy]
        split at h
        · rename_i he
          have hw : Region.wanted o (yielded ops a.tmps) = true := by simp [Region.wanted, hg, hyd, he]
          simp only [hw, if_true]
          exact Oper.wpIn_mono hk (step hd' h)
        · rename_i he
          have hw : Region.wanted o (yielded ops a.tmps) = false := by simp [Region.wanted, hg, hyd, he]
          simp only [hw, Bool.false_eq_true, if_false]
          refine ⟨hab, hk _ _ ⟨c, .tup [], rfl, hs, Ext.refl c, ha.put ?_ hd', h, _, rfl⟩⟩
          simp [RepV, RepL, undef]
      · rename_i hy
        have hyd : yielded ops a.tmps j = none := by
          unfold yielded
          rw [hjd]
          simp only [Option.bind_some]
          rcases tmps_none ha.t hy with h1 | h1 <;> rw [h1]
        have hw : Region.wanted o (yielded ops a.tmps) = false := by simp [Region.wanted, hg, hyd]
        simp only [hw, Bool.false_eq_true, if_false]
        refine ⟨hab, hk _ _ ⟨c, .tup [], rfl, hs, Ext.refl c, ha.put ?_ hd', h, _, rfl⟩⟩
        simp [RepV, RepL, undef]
      · exact h.elim
  · cases hc

theorem wpOpsIn_one {F : Fence} {n : Nat} {ops : Array Oper} {Q : Exit → Act → World → Prop} {i : Nat} {rest : List Nat} {w : World} (h : wpOpIn F n P ops Q i (wpOpsIn F n P ops Q rest) a w) : wpOpsIn F n P ops Q (i :: rest) a w := by
  rw [wpOpsIn_cons]; exact h

theorem compList_get {ops : Array Oper} : ∀ {l : List Oper} {xs : List XOper}, compList P N ops l = some xs → xs.length = l.length ∧ ∀ (i : Nat) (o : Oper), l[i]? = some o → ∃ x, xs[i]? = some x ∧ compOper P N ops o = some x
  | [], xs, h => by simp only [compList, Option.some.injEq] at h; subst h; simp
  | o :: os, xs, h => by
    simp only [compList, Option.bind_eq_some_iff, Option.map_eq_some_iff] at h
    obtain ⟨x, hx, xs', hxs, rfl⟩ := h
    obtain ⟨h1, h2⟩ := compList_get hxs
    refine ⟨by simp [h1], fun i o' hi => ?_⟩
    cases i with
    | zero => simp at hi; subst hi; exact ⟨x, rfl, hx⟩
    | succ i => simp at hi ⊢; exact h2 i o' hi

theorem go_sound {ops : Array Oper} {l : Option Nat} {Q : Exit → Act → World → Prop} {K : Env → St → Prop} : ∀ (os : List Oper) (k : Nat) (xs : List XOper) (c : Cx) (ρ : Env) (a : Act), ops.toList.drop k = os → compList P N ops os = some xs → Sim P c → RepA c N ρ a → XGo P xs ρ c.st K →
    (∀ (c' : Cx) (ρ' : Env) (a' : Act), Sim P c' → Ext c c' → RepA c' N ρ' a' → K ρ' c'.st → Q .normal a' c'.w) → wpOpsIn (Fw l) 0 P ops Q (List.range' k os.length) a c.w := by
  intro os
  induction os with
  | nil =>
    intro k xs c ρ a hk hc hs ha hx hq
    simp only [compList, Option.some.injEq] at hc
    subst hc
    exact hq c ρ a hs (Ext.refl c) ha hx
  | cons o os ih =>
    intro k xs c ρ a hk hc hs ha hx hq
    simp only [compList, Option.bind_eq_some_iff, Option.map_eq_some_iff] at hc
    obtain ⟨x, hxo, xs', hxs, rfl⟩ := hc
    simp only [List.length_cons, List.range'_succ]
    apply wpOpsIn_one
    have hi : ops[k]? = some o := by
      have := congrArg (fun l => l[0]?) hk
      simpa using this
    have hk' : ops.toList.drop (k + 1) = os := by
      have := congrArg List.tail hk
      simpa using this
    simp only [XGo] at hx
    refine one_sound hs ha hxo hi hx ?_
    rintro a' w' ⟨c', v, rfl, h1, h2, h3, h4, _⟩
    exact ih (k + 1) xs' c' _ a' hk' hxs h1 h3 h4 fun c'' ρ'' a'' k1 k2 k3 k4 => hq c'' ρ'' a'' k1 (h2.trans k2) k3 k4

theorem AX.ops {rd : Option (Nat × Nat)} {l : List XOper} {Q : XExit → Env → St → Prop} (h : XGo P l ρ σ (Q .normal)) : AX P N rd (.ops l) ρ σ Q := by
  intro hk hn code hc c a lp h1 h2 h3 h4
  have : ∃ id ops, code = .region id ops false ∧ compList P N ops ops.toList = some l := by
    cases code with
    | region id ops dr =>
      cases dr
      · simp only [comp, Option.map_eq_some_iff] at hc
        obtain ⟨l', hl, he⟩ := hc
        cases he
        exact ⟨id, ops, rfl, hl⟩
      · simp [comp, Option.bind_eq_some_iff, Option.map_eq_some_iff] at hc
    | _ => simp [comp, Option.bind_eq_some_iff, Option.map_eq_some_iff] at hc
  obtain ⟨id, ops, rfl, hl⟩ := this
  subst h1
  apply wpIn_region
  rw [List.range_eq_range', show ops.size = ops.toList.length from (Array.length_toList).symm]
  exact go_sound ops.toList 0 l c ρ a (by simp) hl h2 h3 h fun c' ρ' a' k1 k2 k3 k4 => ⟨c', ρ', .normal, rfl, k1, k2, k3, rfl, k4⟩

end
end Hb
end
