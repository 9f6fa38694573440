/- A layer for programs of small data: values, stores, code, and an evaluator of code that the kernel runs; part 4. -/
import Derived.Test.YtkmpehlhplhnhaaGreatDoorH3
import Derived.Laws.BitsLemmas

section
set_option linter.unusedVariables false
set_option linter.unusedSimpArgs false
set_option linter.constructorNameAsVariable false
set_option autoImplicit false
set_option linter.unusedSimpArgs false
set_option linter.unusedVariables false
namespace Hb
open Go
section
variable {P : Prg} {c : Cx} {N : Nat} {ρ : Nat → AV} {a : Act} {K : AV → St → Prop}
theorem new_row (hs : Sim P c) {T : TypeId} {arr : Array Value} {fz : Nat × Nat} {cs : List AV} {k n cap f0 : Nat} (hr : RepL c cs (arr.toList.take cs.length)) (h1 : ∀ y ∈ arr.toList.take cs.length, y.oneCell' = true)
    (hl : cs.length ≤ arr.size) (hfz : fzOk fz f0 0 arr.size) (hn : n ≤ cap) (hcap : cap * k ≤ arr.size) :
    ∃ c' : Cx, c'.w = c.w.alloc (.cells arr T fz) ∧ c'.st = (c.σ ++ [some (.cells c.nx false T f0 cs)], c.nx + 1) ∧ Sim P c' ∧ Ext c c' ∧
      RepV c' (.gr c.σ.length c.nx 0 n k) (.slice (some ⟨c.w.heap.size, 0, none⟩) n cap) := by
  have hst : (Blk.cells c.nx false T f0 cs).st = c.nx := rfl
  have hι : (c.push (.cells arr T fz) (.cells c.nx false T f0 cs)).loc c.σ.length = (c.w.heap.size, 0) := by simp [Cx.push]
  have hh : (c.push (.cells arr T fz) (.cells c.nx false T f0 cs)).w.heap[c.w.heap.size]? = some (.cells arr T fz) := heap_alloc_new c.w _
  refine ⟨c.push (.cells arr T fz) (.cells c.nx false T f0 cs), rfl, rfl, ?_, Ext.push hs _ _ hst, ?_⟩
  · refine Sim.push hs _ _ hst fun he => ?_
    simp only [BlkRep]
    rw [hι]
    refine ⟨fun h => (by cases h), fun _ => ⟨arr, fz, hh, hfz, by simpa using hl, ?_⟩⟩
    exact repAt_heap hh (by rw [List.drop_zero]; exact RepL.mono he _ _ hr) (by rw [List.drop_zero]; exact h1)
  · simp only [RepV]
    refine ⟨⟨_, _, rfl⟩, by simp [Cx.push], fun blk hb => ⟨fun hv => ?_, fun hv => ?_⟩⟩
    · exfalso
      have : (c.push (.cells arr T fz) (.cells c.nx false T f0 cs)).σ.at c.σ.length c.nx = some (.cells c.nx false T f0 cs) := Store.at_of (by simp [Cx.push]) rfl
      rw [this] at hb
      cases hb
      cases hv
    · rw [hι]
      exact ⟨0, cap, arr, T, fz, rfl, hn, hh, fun _ => ⟨by simp, by simpa using hcap⟩⟩
theorem step_lit {t e : TypeId} {k n : Nat} {z cs : List AV} {ps : Array (Nat × Operand)} {l : List (Nat × Nat × XO)} (hs : Sim P c) (ht : RepT c N ρ a.tmps) (hu : P.underlying t = some (.slice e)) (hk : tsz P e = some k)
    (hz : tzero P e = some z) (hzl : z.length = k) (hk0 : 0 < k) (hn0 : 0 < n) (hnk : n * k ≤ 4096) (hl : compParts P (fun i => some (i * k, k)) ps.toList = some l)
    (hf : fillA ρ ((List.range (n * k)).map fun j => (z[j % z.length]?).getD .u) l = some cs) (h : K (.gr c.σ.length c.nx 0 n k) (c.σ ++ [some (.cells c.nx false e 0 cs)], c.nx + 1)) :
    Stepped1 P c (do pure (.value (← Instr.buildSlice t n (ps.map fun (i, x) => (i, a.eval x))))) K := by
  obtain ⟨zv, hz1, hz2⟩ := run_tzero hz c.w
  obtain ⟨r1, r2⟩ := litL_rep (c := c) hz2
  have hzs : zv.cells.size = k := by rw [← Array.length_toList, ← r1.length]; exact hzl
  have hr0 : RepL c ((List.range (n * k)).map fun j => (z[j % z.length]?).getD .u) ((Array.range (n * k)).map (zv.cells[· % zv.cells.size]!)).toList := by
    refine RepL.of_get (by simp) fun j x hj => ?_
    simp only [List.getElem?_map, Option.map_eq_some_iff] at hj
    obtain ⟨j', hj', rfl⟩ := hj
    have hjlt : j < n * k := by
      rcases Nat.lt_or_ge j (n * k) with h | h
      · exact h
      · rw [List.getElem?_eq_none (by simpa using h)] at hj'; cases hj'
    have : j' = j := by simpa [List.getElem?_range hjlt] using hj'.symm
    subst this
    have hm : j' % z.length < z.length := Nat.mod_lt _ (by omega)
    obtain ⟨y, hy1, hy2⟩ := r1.get (List.getElem?_eq_getElem hm)
    refine ⟨y, ?_, by rw [List.getElem?_eq_getElem hm]; exact hy2⟩
    have hmod : j' % zv.cells.size = j' % z.length := by rw [hzs, hzl]
    have hy1' : zv.cells[j' % z.length]? = some y := by simpa using hy1
    simp [hjlt, hmod, getElem!_def, hy1']
  have hr1 : ∀ y ∈ ((Array.range (n * k)).map (zv.cells[· % zv.cells.size]!)).toList, y.oneCell' = true := by
    intro y hy
    simp only [Array.toList_map, List.mem_map] at hy
    obtain ⟨j, hj, rfl⟩ := hy
    have hm : j % zv.cells.size < zv.cells.size := Nat.mod_lt _ (by omega)
    rw [getElem!_pos zv.cells _ hm]
    exact r2 _ (by simp)
  obtain ⟨arr, e1, e2, e3⟩ := fill_rep (c := c) hs ht _ hl hf hr0 hr1
  have hlen : cs.length = n * k := by
    have : ∀ (xs : List (Nat × Nat × XO)) (z0 c0 : List AV), fillA ρ z0 xs = some c0 → c0.length = z0.length := by
      intro xs
      induction xs with
      | nil => intro z0 c0 h; simp [fillA] at h; rw [h]
      | cons p ps ih =>
        intro z0 c0 h
        obtain ⟨o, s, x⟩ := p
        simp only [fillA, Option.bind_eq_some_iff] at h
        obtain ⟨cl, _, h⟩ := h
        split at h
        · rename_i hle
          rw [ih _ _ h]
          simp [replaceAt]; omega
        · cases h
    rw [this _ _ _ hf]; simp
  have hal : arr.size = n * k := by rw [← Array.length_toList, ← e2.length, hlen]
  have htk : arr.toList.take cs.length = arr.toList := by rw [e2.length, List.take_length]
  obtain ⟨c', f1, f2, f3, f4, f5⟩ := new_row (P := P) (T := e) (arr := arr) (fz := (0, 0)) (k := k) (n := n) (cap := n) (f0 := 0) hs (cs := cs) (by rw [htk]; exact e2) (by rw [htk]; exact e3) (by rw [hlen, hal]; exact Nat.le_refl _) (fzOk_zero _ _) (Nat.le_refl _) (by rw [hal]; exact Nat.le_refl _)
  refine ⟨c', _, _, ?_, .inl ⟨_, rfl, f5⟩, f3, f4, by rw [f2]; exact h⟩
  have hnk0 : n * k ≠ 0 := Nat.ne_of_gt (Nat.mul_pos hn0 hk0)
  have e1' : Instr.fill (fun i => some (i * k, k)) ((Array.range (n * k)).map (zv.cells[· % zv.cells.size]!)) (ps.map fun x => (x.1, a.eval x.2)).toList = some arr := by
    rw [Array.toList_map]; exact e1
  simp only [Instr.buildSlice, Sem.run_bind, run_und hu, Result.andThen_ok, run_tsz hk, show ¬ n * k > 2 ^ 24 from by omega, if_false, hnk0, hz1, Sem.run_pure, e1']
  simp [newRow, f1]
theorem wrap_small {n : Int} (h0 : 0 ≤ n) (h1 : n ≤ 1048576) : IntKind.i64.wrap n = n := by rw [IntKind.wrap_i64]; omega
theorem step_mksl {t e : TypeId} {i : TypeInfo} {z : List AV} {l m : Int} (hs : Sim P c) (hu : P.underlying t = some (.slice e)) (hi : P.info? e = some i) (hb : i.bytes ≤ 4096) (hz : tzero P e = some z)
    (hzl : z.length = i.size) (hk0 : 0 < i.size) (h0 : 0 ≤ l) (h1 : l ≤ m) (h2 : m ≤ 1048576)
    (h : K (.gr c.σ.length c.nx 0 l.toNat i.size) (c.σ ++ [some (.cells c.nx false e 0 ((List.range (m.toNat * i.size)).map fun j => (z[j % z.length]?).getD .u))], c.nx + 1)) :
    Stepped1 P c (do pure (.value (← Instr.makeSlice t (.int .i64 l) (.int .i64 m)))) K := by
  obtain ⟨zv, hz1, hz2⟩ := run_tzero hz c.w
  obtain ⟨r1, r2⟩ := litL_rep (c := c) hz2
  obtain ⟨q1, q2⟩ := zero_row (c := c) (n := m.toNat) r1 r2 hzl hk0
  have hlen : ((List.range (m.toNat * i.size)).map fun j => (z[j % z.length]?).getD .u).length = m.toNat * i.size := by simp
  have htake : ((Array.range (m.toNat * i.size)).map (zv.cells[· % zv.cells.size]!)).toList.take (m.toNat * i.size) = ((Array.range (m.toNat * i.size)).map (zv.cells[· % zv.cells.size]!)).toList := by
    rw [List.take_of_length_le]; simp
  obtain ⟨c', e1, e2, e3, e4, e5⟩ := new_row (P := P) (T := e) (arr := (Array.range (m.toNat * i.size)).map (zv.cells[· % zv.cells.size]!)) (fz := (0, 0)) (k := i.size) (n := l.toNat) (cap := m.toNat) hs
    (cs := (List.range (m.toNat * i.size)).map fun j => (z[j % z.length]?).getD .u) (by rw [hlen, htake]; exact q1) (by rw [hlen, htake]; exact q2) (by simp) (fzOk_zero _ _) (by omega) (by simp)
  refine ⟨c', _, _, ?_, .inl ⟨_, rfl, e5⟩, e3, e4, by rw [e2]; exact h⟩
  have hbytes : (i.bytes : Int) * m ≤ 4096 * 1048576 := by
    have a1 : (i.bytes : Int) * m ≤ 4096 * m := Int.mul_le_mul_of_nonneg_right (by omega) (by omega)
    omega
  have hno : ¬ (m < 0 ∨ (2 : Int) ^ 48 < (i.bytes : Int) * m) := by
    intro h
    rcases h with h | h
    · omega
    · have : (2 : Int) ^ 48 = 281474976710656 := by decide
      omega
  have hzn : (if m.toNat * i.size = 0 then pure #[] else do pure (← zeroValue e).cells : Sem (Array Value)).run P c.w = .ok (if m.toNat * i.size = 0 then #[] else zv.cells) c.w := by
    split <;> simp [hz1]
  have hfun : ((Array.range (m.toNat * i.size)).map fun x => (if m.toNat * i.size = 0 then #[] else zv.cells)[x % (if m.toNat * i.size = 0 then #[] else zv.cells).size]!) = (Array.range (m.toNat * i.size)).map (zv.cells[· % zv.cells.size]!) := by
    by_cases hmz : m.toNat * i.size = 0
    · simp [hmz]
    · simp only [hmz, if_false]
  have hwl := wrap_small h0 (by omega : l ≤ 1048576)
  have hwm := wrap_small (by omega : 0 ≤ m) h2
  simp only [Instr.makeSlice, Sem.run_bind, run_und hu, Result.andThen_ok, asInt, asIntOf, Sem.run_pure, run_tinfo hi, hwl, hwm, Sem.run_ite]
  rw [if_neg (by simp only [Bool.or_eq_true, decide_eq_true_eq, gt_iff_lt]; intro hh; rcases hh with (hh | hh) | hh <;> first | exact hno hh | omega)]
  simp only [Sem.run_bind, run_askRoom, Result.andThen_ok, run_tsz (show tsz P e = some i.size by simp [tsz, hi])]
  have hzn' := hzn
  by_cases hmz : m.toNat * i.size = 0
  · simp only [hmz, if_true] at hfun
    simp only [hmz, if_true, Sem.run_pure, Result.andThen_ok, newRow, Sem.run_bind, run_newObj]
    rw [hmz, show Array.range 0 = #[] from rfl] at e1
    rw [e1, show Array.range 0 = #[] from rfl]
    simp only [Array.map_empty]
    rfl
  · simp only [hmz, if_false, Sem.run_bind, hz1, Sem.run_pure, Result.andThen_ok, newRow, run_newObj, e1]
    rfl
theorem push_modify {α : Type} (h : Array α) (o : α) (f : α → α) : (h.push o).modify h.size f = h.push (f o) := by
  apply Array.ext_getElem?
  intro j
  rw [Array.getElem?_modify, Array.getElem?_push, Array.getElem?_push]
  by_cases hj : j = h.size
  · subst hj; simp
  · simp [hj, show ¬ h.size = j from fun e => hj e.symm]
theorem freeze_alloc (w : World) (arr : Array Value) (e : TypeId) (n : Nat) :
    (w.alloc (.cells arr e)).freeze ⟨w.heap.size, n, none⟩ 1 = w.alloc (.cells arr e (n, n + 1)) := by
  simp only [World.freeze, World.alloc, Nat.one_ne_zero, if_false]
  rw [push_modify]
  simp
theorem step_s2b {e : TypeId} {l : List Nat} (hs : Sim P c) (hl : ∀ x ∈ l, x < 256) (h : K (.gr c.σ.length c.nx 0 l.length 1) (c.σ ++ [some (.cells c.nx false e 1 (l.map fun (b : Nat) => .i .u8 b))], c.nx + 1)) :
    Stepped1 P c (do pure (.value (← Conv.stringToBytes e (bs l)))) K := by
  let q := Question.appendCap l.length 0 e
  let cap := q.cut (c.w.tape c.w.drawn q)
  have hcap : l.length ≤ cap := by simp only [cap, q, Question.cut]; omega
  have hch : (choose q).run P c.w = .ok cap c.w.drew := by rw [run_choose]; rfl
  let arr : Array Value := (bs l).data.map (fun b => Value.int .u8 b.toNat) ++ Array.replicate (cap - l.length) (.int .u8 0)
  have hsz : arr.size = cap := by simp [arr, bs]; omega
  have htake : arr.toList.take l.length = l.map fun (b : Nat) => Value.int .u8 b := by
    simp only [arr, Array.toList_append, Array.toList_map]
    rw [List.take_append_of_le_length (by simp [bs])]
    rw [List.take_of_length_le (by simp [bs])]
    simp only [bs, List.map_map]
    apply List.map_congr_left
    intro b hb
    have := hl b hb
    simp [Nat.mod_eq_of_lt this]
  have hr : RepL c.drew (l.map fun (b : Nat) => AV.i .u8 b) (l.map fun (b : Nat) => Value.int .u8 b) := by
    refine RepL.of_get (by simp) fun j x hj => ?_
    simp only [List.getElem?_map, Option.map_eq_some_iff] at hj ⊢
    obtain ⟨b, hb, rfl⟩ := hj
    exact ⟨_, ⟨b, hb, rfl⟩, by simp [RepV]⟩
  obtain ⟨c', e1, e2, e3, e4, e5⟩ := new_row (P := P) (c := c.drew) (T := e) (arr := arr) (fz := (arr.size, arr.size + 1)) (k := 1) (n := l.length) (cap := cap) (f0 := 1) hs.drew
    (cs := l.map fun (b : Nat) => .i .u8 b) (by rw [List.length_map, htake]; exact hr) (by rw [List.length_map, htake]; intro y hy; simp only [List.mem_map] at hy; obtain ⟨b, _, rfl⟩ := hy; rfl)
    (by rw [List.length_map, hsz]; exact hcap) ⟨by intro j _ hj; simp only; omega, fun h => absurd rfl h⟩ hcap (by rw [hsz]; simp)
  refine ⟨c', _, _, ?_, .inl ⟨_, rfl, e5⟩, e3, (Ext.drew c).trans e4, by rw [e2]; exact h⟩
  have hsize : (bs l).size = l.length := bs_size l
  simp only [Conv.stringToBytes, Sem.run_bind, hsize]
  rw [show Question.appendCap l.length 0 e = q from rfl, hch]
  simp only [Result.andThen_ok, newRow, Sem.run_bind, run_newObj, Sem.run_pure]
  have hcut : (Array.map (fun b => Value.int IntKind.u8 ↑b.toNat) (bs l).data ++ Array.replicate (cap - l.length) (Value.int IntKind.u8 0)) = arr := rfl
  have hsh : (c.w.drew.alloc (.cells arr e)).shape? c.w.drew.heap.size = some (e, arr.size) := by
    simp only [World.shape?, heap_alloc_new]
  have hw : (c.w.drew.alloc (.cells arr e)).freeze ⟨c.w.drew.heap.size, arr.size, none⟩ 1 = c'.w := by
    rw [e1]
    exact freeze_alloc _ _ _ _
  rw [hcut]
  have hwe : ({ heap := c.w.drew.heap.push (.cells arr e), tape := c.w.drew.tape, drawn := c.w.drew.drawn, os := c.w.drew.os, output := c.w.drew.output } : World) = c.w.drew.alloc (.cells arr e) := rfl
  simp only [hwe, markStringish, Sem.run_bind, run_shape, Result.andThen_ok, hsh, run_freeze, hw, Sem.run_pure]
  rfl
theorem bytesS_rep : ∀ {cs : List AV} {l : List Nat} {ys : List Value}, bytesS cs = some l → RepL c cs ys → ys = l.map (fun n => Value.int .u8 (.ofNat n)) ∧ (∀ x ∈ l, x < 256) ∧ l.length = cs.length
  | [], l, ys, h, hr => by
    simp only [bytesS, Option.some.injEq] at h
    subst h
    simp only [RepL] at hr
    subst hr
    simp
  | x :: xs, l, ys, h, hr => by
    simp only [RepL] at hr
    obtain ⟨y, ys', rfl, h1, h2⟩ := hr
    unfold bytesS at h
    split at h
    · rename_i heq; cases heq
    · rename_i n xs' heq
      cases heq
      split at h
      · rename_i hn
        simp only [Option.map_eq_some_iff] at h
        obtain ⟨l', hl', rfl⟩ := h
        obtain ⟨k1, k2, k3⟩ := bytesS_rep hl' h2
        simp only [RepV] at h1
        subst h1 k1
        refine ⟨rfl, ?_, by simp [k3]⟩
        intro x hx
        rcases List.mem_cons.1 hx with rfl | hx
        · exact hn
        · exact k2 x hx
      · cases h
    · cases h
theorem fzOk_freeze {fz : Nat × Nat} {k n m : Nat} (h : fzOk fz k 0 n) (hk : k ≠ 1) : fzOk (if fz.1 == fz.2 then (0, 0 + m) else (min fz.1 0, max fz.2 (0 + m))) (max k (m + 1)) 0 n := by
  have h2 := (h.2 hk).1
  have e : (if fz.1 == fz.2 then (0, 0 + m) else (min fz.1 0, max fz.2 (0 + m))).2 + 1 ≤ max k (m + 1) := by
    split
    · simp only; omega
    · rename_i hne
      have : fz.1 ≠ fz.2 := by simpa using hne
      simp only; omega
  exact ⟨fun j h1 _ _ h3 => by omega, fun _ => ⟨.inr e, rfl⟩⟩
theorem step_ustr {e pt it ty : TypeId} {p : AV} {up : Value} {m : Nat} {l : List Nat} {σ' : Store} (hs : Sim P c) (hp : P.underlying pt = some (.pointer e)) (hc : tsz P e = some 1) (hx : RepV c p up)
    (hu : ustrAt c.σ e p m = some (l, σ')) (h : K (.s l) (σ', c.nx)) :
    Stepped1 P c (do pure (.value (← Builtin.unsafeString_ #[pt, it] ty #[up, .int .i64 (.ofNat m)]))) K := by
  unfold ustrAt at hu
  split at hu
  · split at hu
    · rename_i hm
      subst hm
      cases hu
      simp only [RepV] at hx
      subst hx
      refine ⟨c, .value (.string .empty), .s [], ?_, .inl ⟨_, rfl, ?_⟩, hs, Ext.refl c, h⟩
      · have := Lib.run_unsafeString_none (P := P.toProgram) c.w pt it ty none
        simp only [Sem.run_bind]
        rw [show (Value.int .i64 (Int.ofNat 0)) = .int .i64 0 from rfl, this]
        rfl
      · simp only [RepV]
        exact ⟨rfl, by simp⟩
    · cases hu
  · rename_i r st k i o
    split at hu
    · rename_i st' T fz cs hat
      split at hu
      · rename_i hcond
        obtain ⟨rfl, hfz, rfl, rfl, rfl, hm0, hml, hmx⟩ := hcond
        simp only [Option.map_eq_some_iff] at hu
        obtain ⟨l', hl, hlr⟩ := hu
        cases hlr
        simp only [RepV] at hx
        obtain ⟨_, _, hx⟩ := hx
        have hv := hx _ hat rfl
        obtain ⟨g1, _⟩ := Store.at_some hat
        have hb := hs.blk _ _ g1
        obtain ⟨b1, b2⟩ := hb
        simp only [BlkRep] at b1
        obtain ⟨arr, fzr, e1, e2, e3, e4⟩ := b1.2 trivial
        have d0 := (e2.2 hfz).2
        rw [d0] at e2 e3 e4 hv
        simp only [Nat.zero_mul, Nat.add_zero, Nat.zero_add] at hv e3
        subst hv
        obtain ⟨ys, y1, y2, y3, y4⟩ := (e4.take m).vals
        obtain ⟨q1, q2, q3⟩ := bytesS_rep hl y3
        have hlen : l.length = m := by rw [q3, List.length_take]; omega
        let bl : List UInt8 := l.map UInt8.ofNat
        have hbl : bl.length = m := by simp [bl, hlen]
        have hcell : ∀ j x, bl[j]? = some x → c.w.cell? ((⟨(c.loc r).1, 0, none⟩ : Addr).add j) = some (.int .u8 x.toNat) := by
          intro j x hj
          rw [add_none]
          refine y2 j _ ?_
          rw [q1]
          simp only [bl, List.getElem?_map, Option.map_eq_some_iff] at hj ⊢
          obtain ⟨b, hb1, rfl⟩ := hj
          refine ⟨b, hb1, ?_⟩
          have := q2 b (List.mem_of_getElem? hb1)
          simp [Nat.mod_eq_of_lt this]
        have hsh : c.w.shape? ((c.loc r).1) = some (T, arr.size) := by simp only [World.shape?, e1]
        have hco : P.toProgram.cellsOf T = 1 := by
          unfold Program.cellsOf
          unfold tsz at hc
          rw [hc]; rfl
        have hrun := Lib.run_unsafeString_row (P := P.toProgram) c.w pt it ty T hp hco ((c.loc r).1) arr.size hsh bl (by intro hh; rw [hh] at hbl; simp at hbl; omega) (by rw [hbl]; omega) (by rw [hbl]; omega) hcell
        rw [hbl] at hrun
        let w' := c.w.freeze ⟨(c.loc r).1, 0, none⟩ m
        have hm1 : m ≠ 0 := by omega
        have hw' : w'.heap = c.w.heap.modify ((c.loc r).1) fun
            | .cells c elem (lo, hi) => .cells c elem (if lo == hi then (0, 0 + m) else (min lo 0, max hi (0 + m)))
            | o => o := by
          simp only [w', World.freeze, if_neg hm1]
          rfl
        have hblk : w'.heap[(c.loc r).1]? = some (.cells arr T (if fzr.1 == fzr.2 then (0, 0 + m) else (min fzr.1 0, max fzr.2 (0 + m)))) := by
          rw [hw', Array.getElem?_modify, if_pos rfl, e1]
          rfl
        have hw : Wrote c ((c.loc r).1) w' := by
          refine ⟨fun x hx => ?_, ?_, fun arr0 T0 fz0 h0 => ?_, ?_, ?_, ?_⟩
          · rw [hw', Array.getElem?_modify, if_neg (fun e => hx e.symm)]
          · rw [hw', Array.size_modify]
          · rw [e1] at h0; cases h0; exact ⟨arr, _, hblk, rfl⟩
          · simp only [w', World.freeze, if_neg hm1]
          · simp only [w', World.freeze, if_neg hm1]
          · simp only [w', World.freeze, if_neg hm1]
        let b' : Blk := .cells st' false T (max fz (m + 1)) cs
        have hst : b'.st < c.nx → b'.st = (Blk.cells st' false T fz cs).st := fun _ => rfl
        have hsim : Sim P (c.put w' r b') := Sim.put hs g1 rfl rfl hw hst fun he => by
          simp only [BlkRep, b']
          have hloc : ((c.put w' r (.cells st' false T (max fz (m + 1)) cs)).loc r).2 = 0 := d0
          rw [hloc]
          refine ⟨fun h => (by cases h), fun _ => ⟨arr, _, hblk, fzOk_freeze e2 hfz, by rw [Nat.zero_add]; exact e3, ?_⟩⟩
          obtain ⟨zs, z1, z2, z3, z4⟩ := e4.vals
          refine RepAt.of_vals (RepL.mono he _ _ z3) (fun j y hj => ?_) z4
          have := z2 j y hj
          simp only [World.cell?, e1] at this
          simp only [World.cell?]
          rw [show (c.put w' r b').w.heap[((c.put w' r b').loc r).1]? = some (.cells arr T _) from hblk]
          exact this
        refine ⟨c.put w' r b', .value (.string (bs l)), .s l, ?_, .inl ⟨_, rfl, ?_⟩, hsim, Ext.put hs g1 rfl rfl hw hst, ?_⟩
        · simp only [Sem.run_bind]
          rw [show (Value.int .i64 (Int.ofNat m)) = .int .i64 (m : Int) from rfl, hrun]
          rfl
        · simp only [RepV]
          exact ⟨trivial, q2⟩
        · have : (c.put w' r b').st = (c.σ.set r (some b'), c.nx) := by
            simp only [Cx.st, Cx.put, b', Blk.st]
            congr 1
            have : st' < c.nx := b2
            omega
          rw [this]
          exact h
      · cases hu
    · cases hu
  · cases hu
theorem step_rng {t : TypeId} {l : List Nat} (hs : Sim P c) (hl : ∀ x ∈ l, x < 256) (hu : P.underlying t = some .string) (h : K (.it c.σ.length c.nx) (c.σ ++ [some (.iter c.nx l 0)], c.nx + 1)) :
    Stepped1 P c (do pure (.value (← Instr.range t (.string (bs l))))) K := by
  have hst : (Blk.iter c.nx l 0).st = c.nx := rfl
  have he := Ext.push hs (.stringIter (bs l) 0) _ hst
  refine ⟨c.push (.stringIter (bs l) 0) (.iter c.nx l 0), .value (.pointer (some ⟨c.w.heap.size, 0, none⟩)), _, ?_, .inl ⟨_, rfl, ?_⟩, ?_, he, h⟩
  · simp only [Instr.range, Sem.run_bind, run_und hu, Result.andThen_ok, Sem.run_pure, run_newObj_alloc]
    rfl
  · simp only [RepV]
    refine ⟨⟨_, rfl⟩, by simp [Cx.push], fun blk hb hv => ?_⟩
    simp [Cx.push]
  · refine Sim.push hs _ _ hst fun he => ?_
    simp only [BlkRep, Cx.push, upd_same]
    exact ⟨heap_alloc_new c.w _, hl⟩
theorem step_next {l : List Nat} {r st st' pos : Nat} {u : Value} {ty : TypeId} (hs : Sim P c) (hx : RepV c (.it r st) u) (hat : c.σ.at r st = some (.iter st' l pos))
    (h : if pos < l.length then
          K (.tup [.b true, .i .i64 pos, .i .i32 (Utf8.decode (bs l) pos).1]) (c.σ.set r (some (.iter st' l (pos + (Utf8.decode (bs l) pos).2))), c.nx) else K (.tup [.b false]) c.st) :
    Stepped1 P c (do pure (.value (← Instr.next u true ty))) K := by
  simp only [RepV] at hx
  have hu := hx.2.2 _ hat rfl
  subst hu
  obtain ⟨g1, g2⟩ := Store.at_some hat
  obtain ⟨b1, b2⟩ := hs.blk r _ g1
  simp only [BlkRep] at b1
  obtain ⟨b1, hl⟩ := b1
  have hget : (getObj ((c.loc r).1)).run P c.w = .ok (.stringIter (bs l) pos) c.w := by simp [getObj, Sem.run, b1]
  have hsz : (bs l).size = l.length := bs_size l
  by_cases hp : pos < l.length
  · rw [if_pos hp] at h
    have hset : (setObj ((c.loc r).1) (.stringIter (bs l) (pos + (Utf8.decode (bs l) pos).2))).run P c.w = .ok () (c.w.putObj ((c.loc r).1) (.stringIter (bs l) (pos + (Utf8.decode (bs l) pos).2))) := by
      simp [setObj, Sem.run, b1, World.putObj]
    have hw : Wrote c ((c.loc r).1) (c.w.putObj ((c.loc r).1) (.stringIter (bs l) (pos + (Utf8.decode (bs l) pos).2))) :=
      ⟨fun y hy => World.putObj_heap_other hy, World.putObj_size, fun arr T fz he => (by rw [b1] at he; cases he), rfl, rfl, rfl⟩
    have hst : (Blk.iter st' l (pos + (Utf8.decode (bs l) pos).2)).st < c.nx → (Blk.iter st' l (pos + (Utf8.decode (bs l) pos).2)).st = (Blk.iter st' l pos).st := fun _ => rfl
    refine ⟨c.put _ r (.iter st' l (pos + (Utf8.decode (bs l) pos).2)), .value (.tuple #[.bool true, goInt pos, .int .i32 (Utf8.decode (bs l) pos).1]), .tup [.b true, .i .i64 pos, .i .i32 (Utf8.decode (bs l) pos).1], ?_, .inl ⟨_, rfl, ?_⟩, Sim.put hs g1 rfl rfl hw hst fun he => ?_, Ext.put hs g1 rfl rfl hw hst, ?_⟩
    · simp only [Instr.next, Sem.run_bind, hget, Result.andThen_ok, hsz, hp, if_true, hset, Sem.run_pure]
      rfl
    · simp [RepV, RepL, goInt]
    · simp only [BlkRep]
      exact ⟨World.putObj_heap_same (Array.getElem?_eq_some_iff.1 b1).1, hl⟩
    · have : (c.put (c.w.putObj ((c.loc r).1) (.stringIter (bs l) (pos + (Utf8.decode (bs l) pos).2))) r (.iter st' l (pos + (Utf8.decode (bs l) pos).2))).st = (c.σ.set r (some (.iter st' l (pos + (Utf8.decode (bs l) pos).2))), c.nx) := by
        have b3 : st' + 1 ≤ c.nx := b2
        simp only [Cx.st, Cx.put, Blk.st, Nat.max_eq_left b3]
      rw [this]
      exact h
  · rw [if_neg hp] at h
    refine ⟨c, .value (.tuple #[.bool false]), .tup [.b false], ?_, .inl ⟨_, rfl, ?_⟩, hs, Ext.refl c, h⟩
    · simp only [Instr.next, Sem.run_bind, hget, Result.andThen_ok, hsz, hp, if_false, Sem.run_pure]
    · simp [RepV, RepL]
end
end Hb
end

section
set_option linter.unusedVariables false
set_option linter.unusedSimpArgs false
set_option linter.constructorNameAsVariable false
set_option autoImplicit false
set_option linter.unusedSimpArgs false
set_option linter.unusedVariables false
namespace Hb
open Go
section
variable {P : Prg} {c : Cx} {N : Nat} {ρ : Nat → AV} {a : Act} {K : AV → St → Prop}
theorem RepE.filter {p : Nat → Bool} : ∀ {es : List (AV × AV × Nat)} {l : List MapEntry}, RepE c es l → RepE c (es.filter fun e => p e.2.2) (l.filter fun x => p x.born)
  | [], l, h => by simp only [RepE] at h; subst h; simp [RepE]
  | (k, v, b) :: es, l, h => by
    simp only [RepE] at h
    obtain ⟨e, l', rfl, h1, h2, h3, h4⟩ := h
    subst h3
    have ih := RepE.filter (p := p) h4
    simp only [List.filter_cons]
    cases p e.born with
    | true => simp only [if_true, RepE]; exact ⟨e, _, rfl, h1, h2, rfl, ih⟩
    | false => simpa using ih
theorem RepE.append : ∀ {es es' : List (AV × AV × Nat)} {l l' : List MapEntry}, RepE c es l → RepE c es' l' → RepE c (es ++ es') (l ++ l')
  | [], es', l, l', h, h' => by simp only [RepE] at h; subst h; simpa using h'
  | (k, v, b) :: es, es', l, l', h, h' => by
    simp only [RepE] at h
    obtain ⟨e, l1, rfl, h1, h2, h3, h4⟩ := h
    simp only [List.cons_append, RepE]
    exact ⟨e, l1 ++ l', rfl, h1, h2, h3, RepE.append h4 h'⟩
theorem RepE.get : ∀ {es : List (AV × AV × Nat)} {l : List MapEntry} {j : Nat} {x : MapEntry}, RepE c es l → l[j]? = some x → ∃ e, es[j]? = some e ∧ RepV c e.1 x.key ∧ RepV c e.2.1 x.val ∧ x.born = e.2.2
  | [], l, j, x, h, hj => by simp only [RepE] at h; subst h; simp at hj
  | (k, v, b) :: es, l, j, x, h, hj => by
    simp only [RepE] at h
    obtain ⟨e, l1, rfl, h1, h2, h3, h4⟩ := h
    cases j with
    | zero => simp at hj; subst hj; exact ⟨(k, v, b), rfl, h1, h2, h3⟩
    | succ j => simp at hj; obtain ⟨e', q1, q2⟩ := RepE.get h4 hj; exact ⟨e', by simpa using q1, q2⟩
theorem RepE.isEmpty {es : List (AV × AV × Nat)} {l : List MapEntry} (h : RepE c es l) : l.isEmpty = es.isEmpty := by
  have := h.length
  cases es <;> cases l <;> simp_all
theorem RepE.all {p : Nat → Bool} : ∀ {es : List (AV × AV × Nat)} {l : List MapEntry}, RepE c es l → (l.all fun x => p x.born) = es.all fun e => p e.2.2
  | [], l, h => by simp only [RepE] at h; subst h; rfl
  | (k, v, b) :: es, l, h => by
    simp only [RepE] at h
    obtain ⟨e, l', rfl, h1, h2, h3, h4⟩ := h
    subst h3
    simp only [List.all_cons, RepE.all h4]
theorem map_block {r st st' ck : Nat} {es : List (AV × AV × Nat)} (hs : Sim P c) (hat : c.σ.at r st = some (.map st' ck es)) :
    ∃ arr : Array MapEntry, c.w.heap[(c.loc r).1]? = some (.map arr ck) ∧ RepE c es arr.toList ∧ c.σ[r]? = some (some (.map st' ck es)) ∧ st' < c.nx := by
  obtain ⟨g1, g2⟩ := Store.at_some hat
  obtain ⟨b1, b2⟩ := hs.blk r _ g1
  simp only [BlkRep] at b1
  obtain ⟨arr, e1, e2⟩ := b1
  exact ⟨arr, e1, e2, g1, b2⟩
theorem run_setO {w : World} {b : Nat} {x o : Obj} (h : w.heap[b]? = some x) (hx : ∀ arr T fz, x ≠ .cells arr T fz) : (setObj b o).run P w = .ok () (w.putObj b o) := by
  simp only [setObj, Sem.run, h]
  cases x <;> first | (exact absurd rfl (hx _ _ _)) | rfl
theorem Wrote.putO {o : Obj} {b : Nat} {x : Obj} (h : c.w.heap[b]? = some x) (hx : ∀ arr T fz, x ≠ .cells arr T fz) : Wrote c b (c.w.putObj b o) :=
  ⟨fun y hy => World.putObj_heap_other hy, World.putObj_size, fun arr T fz he => by rw [h] at he; cases he; exact absurd rfl (hx arr T fz), rfl, rfl, rfl⟩
theorem put_stE {c : Cx} {w' : World} {r : Nat} {b : Blk} (h : b.st < c.nx) : (c.put w' r b).st = (c.σ.set r (some b), c.nx) := by
  simp only [Cx.st, Cx.put, Nat.max_eq_left (Nat.succ_le_of_lt h)]
theorem map_put {r st st' ck ck' : Nat} {es es' : List (AV × AV × Nat)} {arr' : Array MapEntry} (hs : Sim P c) (hat : c.σ.at r st = some (.map st' ck es)) (hr : RepE c es' arr'.toList) :
    Sim P (c.put (c.w.putObj ((c.loc r).1) (.map arr' ck')) r (.map st' ck' es')) ∧ Ext c (c.put (c.w.putObj ((c.loc r).1) (.map arr' ck')) r (.map st' ck' es')) ∧
      (c.put (c.w.putObj ((c.loc r).1) (.map arr' ck')) r (.map st' ck' es')).st = (c.σ.set r (some (.map st' ck' es')), c.nx) := by
  obtain ⟨arr, e1, e2, g1, b2⟩ := map_block hs hat
  have hw : Wrote c ((c.loc r).1) (c.w.putObj ((c.loc r).1) (.map arr' ck')) := Wrote.putO e1 (fun _ _ _ h => by cases h)
  have hst : (Blk.map st' ck' es').st < c.nx → (Blk.map st' ck' es').st = (Blk.map st' ck es).st := fun _ => rfl
  have he := Ext.put hs g1 rfl rfl hw hst
  refine ⟨Sim.put hs g1 rfl rfl hw hst fun he => ?_, he, put_stE b2⟩
  simp only [BlkRep]
  exact ⟨arr', World.putObj_heap_same (Array.getElem?_eq_some_iff.1 e1).1, RepE.mono0 he.to0 hr⟩
theorem put_key {d : TypeDesc} {str : Bool} {k v : AV} {u uv : Value} {ck : Nat} (hd1 : str = true → d = .string) (hd2 : str = false → ∃ q, d = .int q) (hk : keyIs str k = true) (hu : RepV c k u) (huv : RepV c v uv) :
    ∀ {es : List (AV × AV × Nat)} {l : List MapEntry} {p : List (AV × AV × Nat) × Bool} (i : Nat), mputL k v ck es = some p → RepE c es l →
      (p.2 = true ∧ Instr.findNow d u l i = some none ∧ RepE c p.1 (l ++ [{ key := u, val := uv, born := ck }])) ∨
      ∃ j e x, p.2 = false ∧ l[j]? = some e ∧ Instr.findNow d u l i = some (some (i + j, x)) ∧ Instr.sameBits 10000 e.key u = true ∧ RepE c p.1 (l.modify j fun e => { e with key := u, val := uv })
  | [], l, p, i, h, hr => by
    simp only [mputL, Option.some.injEq] at h
    simp only [RepE] at hr
    subst h hr
    exact .inl ⟨rfl, rfl, by simp only [List.nil_append, RepE]; exact ⟨_, _, rfl, hu, huv, rfl, rfl⟩⟩
  | (k', v', b) :: es, l, p, i, h, hr => by
    simp only [RepE] at hr
    obtain ⟨e, l', rfl, r1, r2, r3, r4⟩ := hr
    simp only [mputL, Option.bind_eq_some_iff] at h
    obtain ⟨t, ht, h⟩ := h
    obtain ⟨s1, s2⟩ := same_key hd1 hd2 hk ht hu r1
    cases t with
    | true =>
      cases h
      refine .inr ⟨0, e, e.val, rfl, rfl, by simp [Instr.findNow, s1], (s2 rfl).2, ?_⟩
      simp only [List.modify_zero_cons, RepE]
      exact ⟨_, _, rfl, hu, huv, r3, r4⟩
    | false =>
      simp only [cond_false, Option.map_eq_some_iff] at h
      obtain ⟨q, hq, rfl⟩ := h
      rcases put_key hd1 hd2 hk hu huv (i + 1) hq r4 with ⟨h1, h2, h3⟩ | ⟨j, e', x, h1, h2, h3, h4, h5⟩
      · refine .inl ⟨h1, by simp only [Instr.findNow, s1]; exact h2, ?_⟩
        simp only [List.cons_append, RepE]
        exact ⟨e, _, rfl, r1, r2, r3, h3⟩
      · refine .inr ⟨j + 1, e', x, h1, by simpa using h2, by simp only [Instr.findNow, s1]; rw [h3]; congr 3; omega, h4, ?_⟩
        simp only [List.modify_succ_cons, RepE]
        exact ⟨e, _, rfl, r1, r2, r3, h5⟩
theorem del_key {d : TypeDesc} {str : Bool} {k : AV} {u : Value} (hd1 : str = true → d = .string) (hd2 : str = false → ∃ q, d = .int q) (hk : keyIs str k = true) (hu : RepV c k u) :
    ∀ {es : List (AV × AV × Nat)} {l : List MapEntry} {es' : List (AV × AV × Nat)} (i : Nat), mdelL k es = some es' → RepE c es l →
      (Instr.findNow d u l i = some none ∧ RepE c es' l) ∨ ∃ j x, j < l.length ∧ Instr.findNow d u l i = some (some (i + j, x)) ∧ RepE c es' (l.eraseIdx j)
  | [], l, p, i, h, hr => by
    simp only [mdelL, Option.some.injEq] at h
    simp only [RepE] at hr
    subst h hr
    exact .inl ⟨rfl, by simp only [RepE]⟩
  | (k', v', b) :: es, l, p, i, h, hr => by
    simp only [RepE] at hr
    obtain ⟨e, l', rfl, r1, r2, r3, r4⟩ := hr
    simp only [mdelL, Option.bind_eq_some_iff] at h
    obtain ⟨t, ht, h⟩ := h
    obtain ⟨s1, s2⟩ := same_key hd1 hd2 hk ht hu r1
    cases t with
    | true =>
      cases h
      exact .inr ⟨0, e.val, by simp, by simp [Instr.findNow, s1], by simpa using r4⟩
    | false =>
      simp only [cond_false, Option.map_eq_some_iff] at h
      obtain ⟨q, hq, rfl⟩ := h
      rcases del_key hd1 hd2 hk hu (i + 1) hq r4 with ⟨h2, h3⟩ | ⟨j, x, h1, h3, h5⟩
      · refine .inl ⟨by simp only [Instr.findNow, s1]; exact h2, ?_⟩
        simp only [RepE]
        exact ⟨e, _, rfl, r1, r2, r3, h3⟩
      · refine .inr ⟨j + 1, x, by simpa using h1, by simp only [Instr.findNow, s1]; rw [h3]; congr 3; omega, ?_⟩
        simp only [List.eraseIdx_cons_succ, RepE]
        exact ⟨e, _, rfl, r1, r2, r3, h5⟩
theorem step_mset {t kt et : TypeId} {str : Bool} {x i v : AV} {ux ui uv : Value} {σ' : Store} (hs : Sim P c) (hu : P.underlying t = some (.map kt et)) (hk : kstr P kt = some str)
    (h : msetS c.σ str x i v = some σ') (hx : RepV c x ux) (hi : RepV c i ui) (hv : RepV c v uv) (hK : K (.tup []) (σ', c.nx)) : Stepped1 P c (do Instr.mapUpdate t ux ui uv; pure .skip) K := by
  obtain ⟨d, hd, hdk, hd1, hd2⟩ := kstr_of hk
  unfold msetS at h
  split at h
  · rename_i hki
    split at h
    · rename_i r st
      split at h
      · rename_i st' ck es hat
        simp only [Option.map_eq_some_iff] at h
        obtain ⟨p, hp, rfl⟩ := h
        simp only [RepV] at hx
        have hux := hx.2.2 _ hat rfl
        subst hux
        obtain ⟨arr, e1, e2, g1, b2⟩ := map_block hs hat
        rcases put_key (c := c) hd1 hd2 hki hi hv 0 hp e2 with ⟨h1, h2, h3⟩ | ⟨j, e, y, h1, h2, h3, h4, h5⟩
        · obtain ⟨q1, q2, q3⟩ := map_put (ck' := ck + 1) (arr' := arr.push { key := ui, val := uv, born := ck }) hs hat (by simpa using h3)
          refine ⟨_, .skip, .tup [], ?_, .inr ⟨rfl, rfl⟩, q1, q2, by rw [q3]; rw [h1] at hK; exact hK⟩
          simp only [Instr.mapUpdate, Sem.run_bind, run_und hu, Result.andThen_ok, run_getMap e1, run_checkKey' hd hdk, run_findKey' hd h2, run_setO e1 (fun _ _ _ h => by cases h), Sem.run_pure]
          rfl
        · have hj : arr[j]? = some e := by simpa using h2
          have hst : (Instr.keyThatStays (((arr[j]?).map (·.key)).getD ui) ui).run P c.w = .ok ui c.w := by
            simp [hj, Instr.keyThatStays, h4]
          obtain ⟨q1, q2, q3⟩ := map_put (ck' := ck) (arr' := arr.modify j fun e => { e with key := ui, val := uv }) hs hat (by rw [Array.toList_modify]; exact h5)
          refine ⟨_, .skip, .tup [], ?_, .inr ⟨rfl, rfl⟩, q1, q2, by rw [q3]; rw [h1] at hK; exact hK⟩
          rw [Nat.zero_add] at h3
          simp only [Instr.mapUpdate, Sem.run_bind, run_und hu, Result.andThen_ok, run_getMap e1, run_checkKey' hd hdk, run_findKey' hd h3, hst, run_setO e1 (fun _ _ _ h => by cases h), Sem.run_pure]
          rfl
      · cases h
    · cases h
  · cases h
theorem step_mdel {t kt et ty : TypeId} {ts : Array TypeId} {str : Bool} {x i : AV} {ux ui : Value} {σ' : Store} (hs : Sim P c) (hts : ts[0]? = some t) (hu : P.underlying t = some (.map kt et)) (hk : kstr P kt = some str)
    (h : mdelS c.σ str x i = some σ') (hx : RepV c x ux) (hi : RepV c i ui) (hK : K (.tup []) (σ', c.nx)) : Stepped1 P c (do pure (.value (← Builtin.delete_ ts ty #[ux, ui]))) K := by
  obtain ⟨d, hd, hdk, hd1, hd2⟩ := kstr_of hk
  have hun : RepV c (.tup []) (.tuple #[]) := by simp [RepV, RepL]
  unfold mdelS at h
  split at h
  · rename_i hki
    split at h
    · cases h
      simp only [RepV] at hx
      subst hx
      refine ⟨c, .value (.tuple #[]), .tup [], ?_, .inl ⟨_, rfl, hun⟩, hs, Ext.refl c, hK⟩
      simp [Builtin.delete_, hts, run_und hu, run_checkKey' hd hdk]
    · rename_i r st
      split at h
      · rename_i st' ck es hat
        simp only [Option.map_eq_some_iff] at h
        obtain ⟨p, hp, rfl⟩ := h
        simp only [RepV] at hx
        have hux := hx.2.2 _ hat rfl
        subst hux
        obtain ⟨arr, e1, e2, g1, b2⟩ := map_block hs hat
        rcases del_key (c := c) hd1 hd2 hki hi 0 hp e2 with ⟨h2, h3⟩ | ⟨j, y, h1, h3, h5⟩
        · obtain ⟨q1, q2, q3⟩ := map_put (ck' := ck) (arr' := arr) hs hat h3
          refine ⟨c.put (c.w.putObj ((c.loc r).1) (.map arr ck)) r (.map st' ck p), .value (.tuple #[]), .tup [], ?_, .inl ⟨_, rfl, by simp [RepV, RepL]⟩, q1, q2, by rw [q3]; exact hK⟩
          simp [Builtin.delete_, hts, run_und hu, run_getMap e1, run_checkKey' hd hdk, run_findKey' hd h2, run_setO e1 (fun _ _ _ h => by cases h)]
          rfl
        · rw [Nat.zero_add] at h3
          obtain ⟨q1, q2, q3⟩ := map_put (ck' := ck) (arr' := arr.eraseIdxIfInBounds j) hs hat (by
            have : (arr.eraseIdxIfInBounds j).toList = arr.toList.eraseIdx j := by
              unfold Array.eraseIdxIfInBounds
              rw [dif_pos (by simpa using h1)]
              simp
            rw [this]; exact h5)
          refine ⟨c.put (c.w.putObj ((c.loc r).1) (.map (arr.eraseIdxIfInBounds j) ck)) r (.map st' ck p), .value (.tuple #[]), .tup [], ?_, .inl ⟨_, rfl, by simp [RepV, RepL]⟩, q1, q2, by rw [q3]; exact hK⟩
          simp [Builtin.delete_, hts, run_und hu, run_getMap e1, run_checkKey' hd hdk, run_findKey' hd h3, run_setO e1 (fun _ _ _ h => by cases h)]
          rfl
      · cases h
    · cases h
  · cases h
theorem step_mkm {t : TypeId} (hs : Sim P c) (h : K (.m c.σ.length c.nx) (c.σ ++ [some (.map c.nx 0 [])], c.nx + 1)) : Stepped1 P c (do pure (.value (← Instr.makeMap t none))) K := by
  have hst : (Blk.map c.nx 0 []).st = c.nx := rfl
  have he := Ext.push hs (.map #[] 0) _ hst
  refine ⟨c.push (.map #[] 0) (.map c.nx 0 []), .value (.map (some c.w.heap.size)), _, ?_, .inl ⟨_, rfl, ?_⟩, ?_, he, h⟩
  · simp only [Instr.makeMap, Sem.run_bind, Sem.run_pure, Result.andThen_ok, run_newObj_alloc]
    rfl
  · simp only [RepV]
    refine ⟨⟨_, rfl⟩, by simp [Cx.push], fun blk hb hv => ?_⟩
    simp [Cx.push]
  · refine Sim.push hs _ _ hst fun he => ?_
    simp only [BlkRep, Cx.push, upd_same]
    exact ⟨#[], heap_alloc_new c.w _, by simp [RepE]⟩
theorem step_rngm {t kt et : TypeId} {r st st' ck : Nat} {es : List (AV × AV × Nat)} {u : Value} (hs : Sim P c) (hu : P.underlying t = some (.map kt et)) (hx : RepV c (.m r st) u) (hat : c.σ.at r st = some (.map st' ck es))
    (h : K (.it c.σ.length c.nx) (c.σ ++ [some (.miter c.nx r st ck ck [])], c.nx + 1)) : Stepped1 P c (do pure (.value (← Instr.range t u))) K := by
  simp only [RepV] at hx
  have hux := hx.2.2 _ hat rfl
  subst hux
  obtain ⟨arr, e1, e2, g1, b2⟩ := map_block hs hat
  have hst : (Blk.miter c.nx r st ck ck []).st = c.nx := rfl
  have he := Ext.push hs (.mapIter (some ((c.loc r).1)) ck #[] ck) _ hst
  refine ⟨c.push (.mapIter (some ((c.loc r).1)) ck #[] ck) (.miter c.nx r st ck ck []), .value (.pointer (some ⟨c.w.heap.size, 0, none⟩)), _, ?_, .inl ⟨_, rfl, ?_⟩, ?_, he, h⟩
  · simp only [Instr.range, Sem.run_bind, run_und hu, Result.andThen_ok, run_getMap e1, Sem.run_pure, run_newObj_alloc]
    rfl
  · simp only [RepV]
    refine ⟨⟨_, rfl⟩, by simp [Cx.push], fun blk hb hv => ?_⟩
    simp [Cx.push]
  · refine Sim.push hs _ _ hst fun he => ?_
    simp only [BlkRep]
    refine ⟨(c.loc r).1, ?_, Nat.lt_of_lt_of_le hx.2.1 he.nx, fun b hb hv => ?_⟩
    · simp only [Cx.push, upd_same]
      exact heap_alloc_new c.w _
    · obtain ⟨blk, q1, q2, q3⟩ := he.at hx.2.1 hb
      exact (congrArg Prod.fst (q3 (q2.trans hv))).symm
theorem step_nextm {r st st' rm sm since last st2 ck : Nat} {seen : List Nat} {es : List (AV × AV × Nat)} {l : List (Option (AV × AV × Nat))} {u : Value} {ty : TypeId} (hs : Sim P c) (hx : RepV c (.it r st) u)
    (hat : c.σ.at r st = some (.miter st' rm sm since last seen)) (hm : c.σ.at rm sm = some (.map st2 ck es)) (hc : mcands seen since last es = some l)
    (h : ∀ o ∈ l, match o with
      | none => K (.tup [.b false]) c.st
      | some e => K (.tup [.b true, e.1, e.2.1]) (c.σ.set r (some (.miter st' rm sm since ck (seen ++ [e.2.2]))), c.nx)) :
    Stepped1 P c (do pure (.value (← Instr.next u false ty))) K := by
  simp only [RepV] at hx
  have hu := hx.2.2 _ hat rfl
  subst hu
  obtain ⟨g1, g2⟩ := Store.at_some hat
  obtain ⟨b1, b2⟩ := hs.blk r _ g1
  simp only [BlkRep] at b1
  obtain ⟨m, e1, e2, e3⟩ := b1
  have hmm := e3 _ hm rfl
  subst hmm
  obtain ⟨arr, f1, f2, f3, f4⟩ := map_block hs hm
  have hget : (getObj ((c.loc r).1)).run P c.w = .ok (.mapIter (some ((c.loc rm).1)) since seen.toArray last) c.w := by simp [getObj, Sem.run, e1]
  unfold mcands at hc
  split at hc
  · cases hc
  · rename_i hno
    simp only [Option.some.injEq] at hc
    have hno' : (!seen.toArray.isEmpty && !arr.isEmpty && arr.all (fun x => decide (x.born ≥ last))) = false := by
      have a1 := f2.isEmpty
      have a2 := f2.all (p := fun b => decide (last ≤ b))
      have a3 : arr.isEmpty = arr.toList.isEmpty := by simp
      have a4 : (arr.all fun x => decide (x.born ≥ last)) = arr.toList.all fun x => decide (last ≤ x.born) := by simp
      have a5 : seen.toArray.isEmpty = seen.isEmpty := by simp
      rw [a3, a4, a5, a1, a2]
      simpa using hno
    have r1 := f2.filter (p := fun b => !seen.contains b)
    have r2 := r1.filter (p := fun b => decide (b < since))
    have r3 := r1.filter (p := fun b => decide (since ≤ b))
    have r4 := r2.append r3
    let left := arr.filter fun e => !seen.toArray.contains e.born
    let old := left.filter fun e => decide (e.born < since)
    let new := left.filter fun e => decide (e.born ≥ since)
    let cands : Array (Option MapEntry) := (if old.isEmpty then #[none] else #[]) ++ (old ++ new).map some
    have hold : old.toList = (arr.toList.filter fun x => !seen.contains x.born).filter fun x => decide (x.born < since) := by simp [old, left]
    have hnew : new.toList = (arr.toList.filter fun x => !seen.contains x.born).filter fun x => decide (since ≤ x.born) := by simp [new, left]
    have hemp : old.isEmpty = ((es.filter fun e => !seen.contains e.2.2).filter fun e => decide (e.2.2 < since)).isEmpty := by
      have := r2.isEmpty
      rw [← hold] at this
      rw [← this]
      simp
    have hpos : 0 < cands.size := by
      cases ho : old.isEmpty with
      | true =>
        have : cands.size = 1 + ((old ++ new).map some).size := by simp only [cands, ho, if_true, Array.size_append]; rfl
        omega
      | false =>
        have : 0 < old.size := by
          rcases Nat.eq_zero_or_pos old.size with h | h
          · have : old = #[] := Array.eq_empty_of_size_eq_zero h
            rw [this] at ho; cases ho
          · exact h
        simp [cands, ho]
        omega
    -- every candidate is one of the list's
    have hall : ∀ (j : Nat) (o : Option MapEntry), cands[j]? = some o → (o = none ∧ none ∈ l) ∨ ∃ x e, o = some x ∧ some e ∈ l ∧ RepV c e.1 x.key ∧ RepV c e.2.1 x.val ∧ x.born = e.2.2 := by
      intro j o hj
      rw [← hc, ← hemp]
      have hsome : ∀ (j : Nat) (o : Option MapEntry), ((old ++ new).map some)[j]? = some o → ∃ x e, o = some x ∧ some e ∈ (List.map some (((es.filter fun e => !seen.contains e.2.2).filter fun e => decide (e.2.2 < since)) ++ ((es.filter fun e => !seen.contains e.2.2).filter fun e => decide (since ≤ e.2.2)))) ∧ RepV c e.1 x.key ∧ RepV c e.2.1 x.val ∧ x.born = e.2.2 := by
        intro j o hj
        simp only [Array.getElem?_map, Option.map_eq_some_iff] at hj
        obtain ⟨x, hx1, rfl⟩ := hj
        have hx2 : (old.toList ++ new.toList)[j]? = some x := by rw [← Array.toList_append, Array.getElem?_toList]; exact hx1
        rw [hold, hnew] at hx2
        obtain ⟨e, q1, q2, q3, q4⟩ := r4.get hx2
        exact ⟨x, e, rfl, List.mem_map.2 ⟨e, List.mem_of_getElem? q1, rfl⟩, q2, q3, q4⟩
      cases ho : old.isEmpty with
      | false =>
        simp only [cands, ho, Bool.false_eq_true, if_false, Array.empty_append] at hj
        right
        simpa using hsome j o hj
      | true =>
        simp only [cands, ho, if_true] at hj
        cases j with
        | zero =>
          left
          have hj' : o = none := by
            rw [Array.getElem?_append] at hj
            simpa using hj.symm
          exact ⟨hj', by simp⟩
        | succ j =>
          right
          have hj' : ((old ++ new).map some)[j]? = some o := by
            rw [Array.getElem?_append] at hj
            simpa using hj
          obtain ⟨x, e, k1, k2, k3⟩ := hsome j o hj'
          exact ⟨x, e, k1, List.mem_append.2 (.inr k2), k3⟩
    -- the choice
    obtain ⟨idx, cw, hch, hidx, hcw⟩ : ∃ (idx : Nat) (cw : Cx), (choose (.mapNext cands.size)).run P c.w = .ok idx cw.w ∧ idx < cands.size ∧ (cw = c ∨ cw = c.drew) := by
      rw [run_choose]
      by_cases hf : (Question.mapNext cands.size).forced = true
      · exact ⟨0, c, by rw [if_pos hf], hpos, .inl rfl⟩
      · exact ⟨(Question.mapNext cands.size).cut (c.w.tape c.w.drawn (.mapNext cands.size)), c.drew, by rw [if_neg hf]; rfl, Nat.mod_lt _ hpos, .inr rfl⟩
    have hsw : Sim P cw ∧ Ext c cw ∧ cw.σ = c.σ ∧ cw.nx = c.nx ∧ cw.loc = c.loc ∧ cw.w.heap = c.w.heap := by
      rcases hcw with rfl | rfl
      · exact ⟨hs, Ext.refl _, rfl, rfl, rfl, rfl⟩
      · exact ⟨hs.drew, Ext.drew c, rfl, rfl, rfl, rfl⟩
    obtain ⟨s1, s2, s3, s4, s5, s6⟩ := hsw
    have hcget : cands[idx]? = some cands[idx] := Array.getElem?_eq_getElem hidx
    have hrun : ∀ {w' : World} {v : Value}, (match cands[idx]? with
        | some (some e) => do
          setObj ((c.loc r).1) (.mapIter (some ((c.loc rm).1)) since (seen.toArray.push e.born) ck)
          pure (.tuple #[.bool true, e.key, e.val])
        | some none => pure (.tuple #[.bool false])
        | none => stuck "Next: no such candidate" : Sem Value).run P cw.w = .ok v w' → (Instr.next (.pointer (some ⟨(c.loc r).1, 0, none⟩)) false ty).run P c.w = .ok v w' := by
      intro w' v hv
      simp only [Instr.next, Sem.run_bind, hget, Result.andThen_ok, run_getMap f1, Sem.run_ite]
      rw [if_neg (by rw [hno']; simp)]
      show ((choose (.mapNext cands.size)).run P c.w).andThen (fun i w => (match cands[i]? with
        | some (some e) => do
          setObj ((c.loc r).1) (.mapIter (some ((c.loc rm).1)) since (seen.toArray.push e.born) ck)
          pure (.tuple #[.bool true, e.key, e.val])
        | some none => pure (.tuple #[.bool false])
        | none => stuck "Next: no such candidate" : Sem Value).run P w) = _
      rw [hch]
      exact hv
    rcases hall idx _ hcget with ⟨h1, h2⟩ | ⟨x, e, h1, h2, h3, h4, h5⟩
    · refine ⟨cw, .value (.tuple #[.bool false]), .tup [.b false], ?_, .inl ⟨_, rfl, by simp [RepV, RepL]⟩, s1, s2, ?_⟩
      · have := hrun (v := .tuple #[.bool false]) (w' := cw.w) (by rw [hcget, h1]; rfl)
        simp only [Sem.run_bind, this, Result.andThen_ok, Sem.run_pure]
      · have := h _ h2
        simp only at this
        rw [show cw.st = c.st from by simp only [Cx.st, s3, s4]]
        exact this
    · have e1' : cw.w.heap[(cw.loc r).1]? = some (.mapIter (some ((c.loc rm).1)) since seen.toArray last) := by rw [s6, s5]; exact e1
      have g1' : cw.σ[r]? = some (some (.miter st' rm sm since last seen)) := by rw [s3]; exact g1
      let o' : Obj := .mapIter (some ((c.loc rm).1)) since (seen.toArray.push x.born) ck
      have hw : Wrote cw ((cw.loc r).1) (cw.w.putObj ((cw.loc r).1) o') := Wrote.putO e1' (fun _ _ _ h => by cases h)
      let b' : Blk := .miter st' rm sm since ck (seen ++ [e.2.2])
      have hst : b'.st < cw.nx → b'.st = (Blk.miter st' rm sm since last seen).st := fun _ => rfl
      have he := Ext.put s1 g1' rfl (b' := b') rfl hw hst
      have hsim := Sim.put s1 g1' rfl (b' := b') rfl hw hst fun he => by
        simp only [BlkRep, b']
        refine ⟨(c.loc rm).1, ?_, ?_, fun b hb hv => ?_⟩
        · have := World.putObj_heap_same (o := o') (Array.getElem?_eq_some_iff.1 e1').1
          rw [show (seen ++ [e.2.2]).toArray = seen.toArray.push e.2.2 from by simp, ← h5]
          exact this
        · show sm < max cw.nx _
          have := e2
          omega
        · have hsm : sm < cw.nx := by rw [s4]; exact e2
          obtain ⟨blk, q1, q2, q3⟩ := he.at hsm hb
          rw [q3 (q2.trans hv), s5]
      refine ⟨_, .value (.tuple #[.bool true, x.key, x.val]), .tup [.b true, e.1, e.2.1], ?_, .inl ⟨_, rfl, ?_⟩, hsim, s2.trans he, ?_⟩
      · have := hrun (v := .tuple #[.bool true, x.key, x.val]) (w' := cw.w.putObj ((cw.loc r).1) o') (by
          rw [hcget, h1]
          simp only [Sem.run_bind]
          rw [← s5, run_setO e1' (fun _ _ _ h => by cases h)]
          simp [o', s5])
        simp only [Sem.run_bind, this, Result.andThen_ok, Sem.run_pure]
        rfl
      · have he' := s2.trans he
        simp only [RepV, RepL]
        exact ⟨_, rfl, _, _, rfl, rfl, _, _, rfl, RepV.mono he' _ _ h3, _, _, rfl, RepV.mono he' _ _ h4, rfl⟩
      · have := h _ h2
        simp only at this
        rw [put_stE (show b'.st < cw.nx from by rw [s4]; exact b2), s3, s4]
        exact this
theorem step_rngmi {t kt et : TypeId} {ck : Nat} {bs : List Nat} {ks : List AV} {u : Value} (hs : Sim P c) (hu : P.underlying t = some (.map kt et)) (hx : RepV c (.mi ck bs ks) u)
    (h : K (.it c.σ.length c.nx) (c.σ ++ [some (.miti c.nx ck bs ks [])], c.nx + 1)) : Stepped1 P c (do pure (.value (← Instr.range t u))) K := by
  simp only [RepV] at hx
  obtain ⟨b, arr, rfl, hb, e1, e2, e3⟩ := hx
  have hst : (Blk.miti c.nx ck bs ks []).st = c.nx := rfl
  have he := Ext.push hs (.mapIter (some b) ck #[] ck) _ hst
  refine ⟨c.push (.mapIter (some b) ck #[] ck) (.miti c.nx ck bs ks []), .value (.pointer (some ⟨c.w.heap.size, 0, none⟩)), _, ?_, .inl ⟨_, rfl, ?_⟩, ?_, he, h⟩
  · simp only [Instr.range, Sem.run_bind, run_und hu, Result.andThen_ok, run_getMap e1, Sem.run_pure, run_newObj_alloc]
    rfl
  · simp only [RepV]
    refine ⟨⟨_, rfl⟩, by simp [Cx.push], fun blk hb hv => ?_⟩
    simp [Cx.push]
  · refine Sim.push hs _ _ hst fun he => ?_
    simp only [BlkRep]
    refine ⟨b, arr, ?_, hb, (he.keep0 b hb).trans e1, e2, RepL.mono he _ _ e3⟩
    simp only [Cx.push, upd_same]
    exact heap_alloc_new c.w _
theorem step_nextmi {r st st' ck : Nat} {bs : List Nat} {ks : List AV} {seen : List Nat} {l : List (Option (AV × AV × Nat))} {u : Value} {ty : TypeId} (hs : Sim P c) (hx : RepV c (.it r st) u)
    (hat : c.σ.at r st = some (.miti st' ck bs ks seen)) (hc : mcands seen ck ck (mkEs bs ks) = some l)
    (h : ∀ o ∈ l, match o with
      | none => K (.tup [.b false]) c.st
      | some e => K (.tup [.b true, e.1, .u]) (c.σ.set r (some (.miti st' ck bs ks (seen ++ [e.2.2]))), c.nx)) :
    Stepped1 P c (do pure (.value (← Instr.next u false ty))) K := by
  simp only [RepV] at hx
  have hu := hx.2.2 _ hat rfl
  subst hu
  obtain ⟨g1, g2⟩ := Store.at_some hat
  obtain ⟨b1, b2⟩ := hs.blk r _ g1
  simp only [BlkRep] at b1
  obtain ⟨m, arr, e1, e2, f1, e3, e4⟩ := b1
  have f2 := mkEs_rep (c := c) e3 e4
  have hget : (getObj ((c.loc r).1)).run P c.w = .ok (.mapIter (some (m)) ck seen.toArray ck) c.w := by simp [getObj, Sem.run, e1]
  unfold mcands at hc
  split at hc
  · cases hc
  · rename_i hno
    simp only [Option.some.injEq] at hc
    have hno' : (!seen.toArray.isEmpty && !arr.isEmpty && arr.all (fun x => decide (x.born ≥ ck))) = false := by
      have a1 := f2.isEmpty
      have a2 := f2.all (p := fun b => decide (ck ≤ b))
      have a3 : arr.isEmpty = arr.toList.isEmpty := by simp
      have a4 : (arr.all fun x => decide (x.born ≥ ck)) = arr.toList.all fun x => decide (ck ≤ x.born) := by simp
      have a5 : seen.toArray.isEmpty = seen.isEmpty := by simp
      rw [a3, a4, a5, a1, a2]
      simpa using hno
    have r1 := f2.filter (p := fun b => !seen.contains b)
    have r2 := r1.filter (p := fun b => decide (b < ck))
    have r3 := r1.filter (p := fun b => decide (ck ≤ b))
    have r4 := r2.append r3
    let left := arr.filter fun e => !seen.toArray.contains e.born
    let old := left.filter fun e => decide (e.born < ck)
    let new := left.filter fun e => decide (e.born ≥ ck)
    let cands : Array (Option MapEntry) := (if old.isEmpty then #[none] else #[]) ++ (old ++ new).map some
    have hold : old.toList = (arr.toList.filter fun x => !seen.contains x.born).filter fun x => decide (x.born < ck) := by simp [old, left]
    have hnew : new.toList = (arr.toList.filter fun x => !seen.contains x.born).filter fun x => decide (ck ≤ x.born) := by simp [new, left]
    have hemp : old.isEmpty = (((mkEs bs ks).filter fun e => !seen.contains e.2.2).filter fun e => decide (e.2.2 < ck)).isEmpty := by
      have := r2.isEmpty
      rw [← hold] at this
      rw [← this]
      simp
    have hpos : 0 < cands.size := by
      cases ho : old.isEmpty with
      | true =>
        have : cands.size = 1 + ((old ++ new).map some).size := by simp only [cands, ho, if_true, Array.size_append]; rfl
        omega
      | false =>
        have : 0 < old.size := by
          rcases Nat.eq_zero_or_pos old.size with h | h
          · have : old = #[] := Array.eq_empty_of_size_eq_zero h
            rw [this] at ho; cases ho
          · exact h
        simp [cands, ho]
        omega
    -- every candidate is one of the list's
    have hall : ∀ (j : Nat) (o : Option MapEntry), cands[j]? = some o → (o = none ∧ none ∈ l) ∨ ∃ x e, o = some x ∧ some e ∈ l ∧ RepV c e.1 x.key ∧ RepV c e.2.1 x.val ∧ x.born = e.2.2 := by
      intro j o hj
      rw [← hc, ← hemp]
      have hsome : ∀ (j : Nat) (o : Option MapEntry), ((old ++ new).map some)[j]? = some o → ∃ x e, o = some x ∧ some e ∈ (List.map some ((((mkEs bs ks).filter fun e => !seen.contains e.2.2).filter fun e => decide (e.2.2 < ck)) ++ (((mkEs bs ks).filter fun e => !seen.contains e.2.2).filter fun e => decide (ck ≤ e.2.2)))) ∧ RepV c e.1 x.key ∧ RepV c e.2.1 x.val ∧ x.born = e.2.2 := by
        intro j o hj
        simp only [Array.getElem?_map, Option.map_eq_some_iff] at hj
        obtain ⟨x, hx1, rfl⟩ := hj
        have hx2 : (old.toList ++ new.toList)[j]? = some x := by rw [← Array.toList_append, Array.getElem?_toList]; exact hx1
        rw [hold, hnew] at hx2
        obtain ⟨e, q1, q2, q3, q4⟩ := r4.get hx2
        exact ⟨x, e, rfl, List.mem_map.2 ⟨e, List.mem_of_getElem? q1, rfl⟩, q2, q3, q4⟩
      cases ho : old.isEmpty with
      | false =>
        simp only [cands, ho, Bool.false_eq_true, if_false, Array.empty_append] at hj
        right
        simpa using hsome j o hj
      | true =>
        simp only [cands, ho, if_true] at hj
        cases j with
        | zero =>
          left
          have hj' : o = none := by
            rw [Array.getElem?_append] at hj
            simpa using hj.symm
          exact ⟨hj', by simp⟩
        | succ j =>
          right
          have hj' : ((old ++ new).map some)[j]? = some o := by
            rw [Array.getElem?_append] at hj
            simpa using hj
          obtain ⟨x, e, k1, k2, k3⟩ := hsome j o hj'
          exact ⟨x, e, k1, List.mem_append.2 (.inr k2), k3⟩
    -- the choice
    obtain ⟨idx, cw, hch, hidx, hcw⟩ : ∃ (idx : Nat) (cw : Cx), (choose (.mapNext cands.size)).run P c.w = .ok idx cw.w ∧ idx < cands.size ∧ (cw = c ∨ cw = c.drew) := by
      rw [run_choose]
      by_cases hf : (Question.mapNext cands.size).forced = true
      · exact ⟨0, c, by rw [if_pos hf], hpos, .inl rfl⟩
      · exact ⟨(Question.mapNext cands.size).cut (c.w.tape c.w.drawn (.mapNext cands.size)), c.drew, by rw [if_neg hf]; rfl, Nat.mod_lt _ hpos, .inr rfl⟩
    have hsw : Sim P cw ∧ Ext c cw ∧ cw.σ = c.σ ∧ cw.nx = c.nx ∧ cw.loc = c.loc ∧ cw.w.heap = c.w.heap := by
      rcases hcw with rfl | rfl
      · exact ⟨hs, Ext.refl _, rfl, rfl, rfl, rfl⟩
      · exact ⟨hs.drew, Ext.drew c, rfl, rfl, rfl, rfl⟩
    obtain ⟨s1, s2, s3, s4, s5, s6⟩ := hsw
    have hcget : cands[idx]? = some cands[idx] := Array.getElem?_eq_getElem hidx
    have hrun : ∀ {w' : World} {v : Value}, (match cands[idx]? with
        | some (some e) => do
          setObj ((c.loc r).1) (.mapIter (some (m)) ck (seen.toArray.push e.born) ck)
          pure (.tuple #[.bool true, e.key, e.val])
        | some none => pure (.tuple #[.bool false])
        | none => stuck "Next: no such candidate" : Sem Value).run P cw.w = .ok v w' → (Instr.next (.pointer (some ⟨(c.loc r).1, 0, none⟩)) false ty).run P c.w = .ok v w' := by
      intro w' v hv
      simp only [Instr.next, Sem.run_bind, hget, Result.andThen_ok, run_getMap f1, Sem.run_ite]
      rw [if_neg (by rw [hno']; simp)]
      show ((choose (.mapNext cands.size)).run P c.w).andThen (fun i w => (match cands[i]? with
        | some (some e) => do
          setObj ((c.loc r).1) (.mapIter (some (m)) ck (seen.toArray.push e.born) ck)
          pure (.tuple #[.bool true, e.key, e.val])
        | some none => pure (.tuple #[.bool false])
        | none => stuck "Next: no such candidate" : Sem Value).run P w) = _
      rw [hch]
      exact hv
    rcases hall idx _ hcget with ⟨h1, h2⟩ | ⟨x, e, h1, h2, h3, h4, h5⟩
    · refine ⟨cw, .value (.tuple #[.bool false]), .tup [.b false], ?_, .inl ⟨_, rfl, by simp [RepV, RepL]⟩, s1, s2, ?_⟩
      · have := hrun (v := .tuple #[.bool false]) (w' := cw.w) (by rw [hcget, h1]; rfl)
        simp only [Sem.run_bind, this, Result.andThen_ok, Sem.run_pure]
      · have := h _ h2
        simp only at this
        rw [show cw.st = c.st from by simp only [Cx.st, s3, s4]]
        exact this
    · have e1' : cw.w.heap[(cw.loc r).1]? = some (.mapIter (some (m)) ck seen.toArray ck) := by rw [s6, s5]; exact e1
      have g1' : cw.σ[r]? = some (some (.miti st' ck bs ks seen)) := by rw [s3]; exact g1
      let o' : Obj := .mapIter (some (m)) ck (seen.toArray.push x.born) ck
      have hw : Wrote cw ((cw.loc r).1) (cw.w.putObj ((cw.loc r).1) o') := Wrote.putO e1' (fun _ _ _ h => by cases h)
      let b' : Blk := .miti st' ck bs ks (seen ++ [e.2.2])
      have hst : b'.st < cw.nx → b'.st = (Blk.miti st' ck bs ks seen).st := fun _ => rfl
      have he := Ext.put s1 g1' rfl (b' := b') rfl hw hst
      have hsim := Sim.put s1 g1' rfl (b' := b') rfl hw hst fun he => by
        simp only [BlkRep, b']
        refine ⟨m, arr, ?_, s2.n0 m e2, ?_, e3, RepL.mono (s2.trans he) _ _ e4⟩
        · have := World.putObj_heap_same (o := o') (Array.getElem?_eq_some_iff.1 e1').1
          rw [show (seen ++ [e.2.2]).toArray = seen.toArray.push e.2.2 from by simp, ← h5]
          exact this
        · exact ((s2.trans he).keep0 m e2).trans f1
      refine ⟨_, .value (.tuple #[.bool true, x.key, x.val]), .tup [.b true, e.1, .u], ?_, .inl ⟨_, rfl, ?_⟩, hsim, s2.trans he, ?_⟩
      · have := hrun (v := .tuple #[.bool true, x.key, x.val]) (w' := cw.w.putObj ((cw.loc r).1) o') (by
          rw [hcget, h1]
          simp only [Sem.run_bind]
          rw [← s5, run_setO e1' (fun _ _ _ h => by cases h)]
          simp [o', s5])
        simp only [Sem.run_bind, this, Result.andThen_ok, Sem.run_pure]
        rfl
      · have he' := s2.trans he
        simp only [RepV, RepL]
        exact ⟨_, rfl, _, _, rfl, rfl, _, _, rfl, RepV.mono he' _ _ h3, _, _, rfl, trivial, rfl⟩
      · have := h _ h2
        simp only at this
        rw [put_stE (show b'.st < cw.nx from by rw [s4]; exact b2), s3, s4]
        exact this
end
end Hb
end

section
set_option linter.unusedVariables false
set_option linter.unusedSimpArgs false
set_option linter.constructorNameAsVariable false
set_option autoImplicit false
set_option linter.unusedSimpArgs false
set_option linter.unusedVariables false
namespace Hb
open Go
section
variable {P : Prg} {c : Cx} {N : Nat} {ρ : Nat → AV} {a : Act} {K : AV → St → Prop}
theorem write_cells {r st st' T fz o : Nat} {old cs : List AV} {zs : List Value} (hs : Sim P c) (hat : c.σ.at r st = some (.cells st' false T fz old)) (r1 : RepL c cs zs) (r2 : ∀ v ∈ zs, v.oneCell' = true)
    (hb : o + cs.length ≤ old.length) (hfz : fz ≤ o + 1) :
    ∃ w', (storeCells ⟨(c.loc r).1, (c.loc r).2 + o, none⟩ zs 0).run P c.w = .ok () w' ∧ Sim P (c.put w' r (.cells st' false T fz (replaceAt old o cs))) ∧ Ext c (c.put w' r (.cells st' false T fz (replaceAt old o cs))) ∧
      (c.put w' r (.cells st' false T fz (replaceAt old o cs))).st = (c.σ.set r (some (.cells st' false T fz (replaceAt old o cs))), c.nx) := by
  obtain ⟨g1, g2⟩ := Store.at_some hat
  have hv : (Blk.cells st' false T fz old).virt = false := rfl
  obtain ⟨b1, b2⟩ := hs.blk r _ g1
  simp only [BlkRep] at b1
  obtain ⟨arr, fzr, e1, e2, e3, e4⟩ := b1.2 trivial
  have hlen := r1.length
  obtain ⟨d, hd⟩ : ∃ d, d = (c.loc r).2 := ⟨_, rfl⟩
  rw [← hd] at e2 e3 e4
  have hbound : d + o + zs.length ≤ arr.size := by omega
  obtain ⟨w', arr', k1, k2, k3, k4, k5, k6, k7, k8, k9⟩ := run_stores P (c.loc r).1 (d + o) zs 0 c.w arr T fzr e1 (fun j hj1 hj2 => e2.1 j (by omega) (by omega) hj2) (by omega) r2
  have hw : Wrote c (c.loc r).1 w' := ⟨k5, k6, fun arr0 T0 fz0 h0 => by rw [e1] at h0; cases h0; exact ⟨arr', fzr, k2, k3⟩, k7, k8, k9⟩
  let b' : Blk := .cells st' false T fz (replaceAt old o cs)
  have hsim : Sim P (c.put w' r b') := Sim.put hs g1 hv rfl hw (fun _ => rfl) fun he => by
    simp only [BlkRep, b']
    have hloc : (c.put w' r (.cells st' false T fz (replaceAt old o cs))).loc r = ((c.loc r).1, d) := by rw [hd]; rfl
    rw [hloc]
    refine ⟨fun h => (by cases h), fun _ => ⟨arr', fzr, k2, by rw [k3]; exact e2, ?_, ?_⟩⟩
    · rw [replaceAt_length (by omega), k3]; exact e3
    · obtain ⟨ys, y1, y2, y3, y4⟩ := e4.vals
      have hys : ys = (arr.toList.drop d).take old.length := by
        apply List.ext_getElem?
        intro j
        rw [List.getElem?_take]
        split
        · rename_i hj
          rw [← y1] at hj
          have := y2 j ys[j] (List.getElem?_eq_getElem hj)
          rw [List.getElem?_eq_getElem hj]
          simp [World.cell?, e1] at this
          rw [List.getElem?_drop]
          simpa using this.symm
        · rename_i hj
          rw [List.getElem?_eq_none (by omega)]
      subst hys
      have t1 : ((arr.toList.drop d).take old.length).take o = (arr.toList.drop d).take o := by rw [List.take_take]; congr 1; omega
      refine RepAt.of_vals (ys := ((arr.toList.drop d).take o) ++ (zs ++ ((arr.toList.drop d).take old.length).drop (o + cs.length))) ?_ (fun j y hj => ?_) (fun y hy => ?_)
      · unfold replaceAt
        have y3' := RepL.mono he _ _ y3
        rw [← t1]
        exact (y3'.take _).append ((RepL.mono he _ _ r1).append (y3'.drop _))
      · have hcell : (c.put w' r b').w.cell? ⟨(c.loc r).1, d + j, none⟩ = arr'.toList[d + j]? := by
          simp [Cx.put, World.cell?, k2]
        refine hcell.trans ?_
        rw [k4]
        simp only [Nat.add_zero]
        rw [hlen] at hj
        exact repl_get hj (by rw [Array.length_toList]; omega)
      · rcases List.mem_append.1 hy with hy | hy
        · exact y4 y (by rw [← t1] at hy; exact List.mem_of_mem_take hy)
        · rcases List.mem_append.1 hy with hy | hy
          · exact r2 y hy
          · exact y4 y (List.mem_of_mem_drop hy)
  rw [hd] at k1
  exact ⟨w', k1, hsim, Ext.put hs g1 hv rfl hw (fun _ => rfl), put_stE b2⟩
theorem step_clr {t e ty : TypeId} {ts : Array TypeId} {k : Nat} {z : List AV} {x : AV} {ux : Value} {σ' : Store} (hs : Sim P c) (hts : ts[0]? = some t) (hu : P.underlying t = some (.slice e)) (hz : tzero P e = some z) (hzl : z.length = k) (hk0 : 0 < k)
    (h : clrS c.σ k z x = some σ') (hx : RepV c x ux) (hK : K (.tup []) (σ', c.nx)) : Stepped1 P c (do pure (.value (← Builtin.clear_ ts ty #[ux]))) K := by
  have hun : RepV c (.tup []) (.tuple #[]) := by simp [RepV, RepL]
  have triv : ∀ {a : Option Addr} {m : Nat}, ux = .slice a 0 m → σ' = c.σ → Stepped1 P c (do pure (.value (← Builtin.clear_ ts ty #[ux]))) K := by
    rintro a m rfl rfl
    refine ⟨c, .value (.tuple #[]), .tup [], ?_, .inl ⟨_, rfl, hun⟩, hs, Ext.refl c, hK⟩
    cases a <;> simp [Builtin.clear_, hts, run_und hu]
  unfold clrS at h
  split at h
  · cases h
    simp only [RepV] at hx
    exact triv hx rfl
  · cases h
    simp only [RepV] at hx
    obtain ⟨b, hb, _⟩ := hx
    exact triv hb rfl
  · rename_i r st i n k'
    split at h
    · rename_i hn
      cases h
      simp only [RepV] at hx
      obtain ⟨⟨b, cap, hb⟩, _⟩ := hx
      rw [hn] at hb
      exact triv hb rfl
    · rename_i hn
      split at h
      · rename_i st' T fz old hat
        split at h
        · rename_i hcond
          obtain ⟨hkk, hlen, hfz⟩ := hcond
          cases h
          subst hkk
          simp only [RepV] at hx
          obtain ⟨off, cap, arr, T', fz', hv, hle, _, hoff⟩ := (hx.2.2 _ hat).2 rfl
          have hc0 : cap ≠ 0 := by omega
          obtain ⟨ho, _⟩ := hoff hc0
          subst hv ho
          obtain ⟨zv, hz1, hz2⟩ := run_tzero hz c.w
          obtain ⟨r1, r2⟩ := litL_rep (c := c) hz2
          have hzs : zv.cells.size = k' := by rw [← Array.length_toList, ← r1.length]; exact hzl
          obtain ⟨q1, q2⟩ := zero_row (c := c) (n := n) r1 r2 hzl hk0
          obtain ⟨w', w1, w2, w3, w4⟩ := write_cells (P := P) (o := i * k') hs hat q1 q2 (by simp; omega) hfz
          refine ⟨_, .value (.tuple #[]), .tup [], ?_, .inl ⟨_, rfl, by simp [RepV, RepL]⟩, w2, w3, by rw [w4]; exact hK⟩
          have hzc : Builtin.zeroCells zv.cells n = (Array.range (n * k')).map (zv.cells[· % zv.cells.size]!) := by
            simp only [Builtin.zeroCells, hzs]
          obtain ⟨n', rfl⟩ : ∃ n', n = n' + 1 := ⟨n - 1, by omega⟩
          simp only [Builtin.clear_, hts, Sem.run_bind, run_und hu, Result.andThen_ok]
          simp only [List.getElem?_toArray, List.getElem?_cons_zero, Sem.run_bind, run_und hu, Result.andThen_ok, hz1, hzc, w1, Sem.run_pure]
          rfl
        · cases h
      · cases h
  · cases h
theorem step_lit0 {t e : TypeId} {k : Nat} (hs : Sim P c) (hu : P.underlying t = some (.slice e)) (hk : tsz P e = some k)
    (h : K (.gr c.σ.length c.nx 0 0 k) (c.σ ++ [some (.cells c.nx false e 0 [])], c.nx + 1)) : Stepped1 P c (do pure (.value (← Instr.buildSlice t 0 #[]))) K := by
  obtain ⟨c', e1, e2, e3, e4, e5⟩ := new_row (P := P) (T := e) (arr := #[]) (fz := (0, 0)) (f0 := 0) (k := k) (n := 0) (cap := 0) hs (cs := []) (by simp [RepL]) (by simp) (by simp) (fzOk_zero _ _) (Nat.le_refl _) (by simp)
  refine ⟨c', _, _, ?_, .inl ⟨_, rfl, e5⟩, e3, e4, by rw [e2]; exact h⟩
  simp only [Instr.buildSlice, Sem.run_bind, run_und hu, Result.andThen_ok, run_tsz hk, Nat.zero_mul]
  simp [Instr.fill, newRow, e1]
  rw [show (Array.range 0) = #[] from by simp]
  simp
theorem step_mks {x : AV} {u : Value} {σ' : Store} {t e : TypeId} (hs : Sim P c) (hu : P.underlying t = some (.slice e)) (he : P.underlying e = some (.int .u8)) (h : mksS c.σ x = some σ') (hx : RepV c x u)
    (hK : K x (σ', c.nx)) : Stepped1 P c (do pure (.value (← convert t t u))) K := by
  unfold mksS at h
  split at h
  · rename_i r st i n k
    split at h
    · rename_i st' T fz cs hat
      split at h
      · rename_i hcond
        obtain ⟨rfl, rfl, hn⟩ := hcond
        cases h
        have hx0 := hx
        simp only [RepV] at hx
        obtain ⟨off, cap, arr', T', fz', hv, hle, _, hoff⟩ := (hx.2.2 _ hat).2 rfl
        subst hv
        obtain ⟨g1, g2⟩ := Store.at_some hat
        obtain ⟨b1, b2⟩ := hs.blk _ _ g1
        simp only [BlkRep] at b1
        obtain ⟨arr, fzr, e1, e2, e3, e4⟩ := b1.2 trivial
        have hfr : fzr.1 = fzr.2 := by
          rcases (e2.2 (by omega)).1 with h | h
          · exact h
          · omega
        let w' := c.w.freeze ⟨(c.loc r).1, arr.size, none⟩ 1
        have hw' : w'.heap = c.w.heap.modify ((c.loc r).1) fun
            | .cells c elem (lo, hi) => .cells c elem (if lo == hi then (arr.size, arr.size + 1) else (min lo arr.size, max hi (arr.size + 1)))
            | o => o := by
          simp only [w', World.freeze, Nat.one_ne_zero, if_false]
          rfl
        have hblk : w'.heap[(c.loc r).1]? = some (.cells arr T (arr.size, arr.size + 1)) := by
          rw [hw', Array.getElem?_modify, if_pos rfl, e1]
          simp [hfr]
        have hw : Wrote c ((c.loc r).1) w' := by
          refine ⟨fun x hx => ?_, ?_, fun arr0 T0 fz0 h0 => ?_, ?_, ?_, ?_⟩
          · rw [hw', Array.getElem?_modify, if_neg (fun e => hx e.symm)]
          · rw [hw', Array.size_modify]
          · rw [e1] at h0; cases h0; exact ⟨arr, _, hblk, rfl⟩
          · simp only [w', World.freeze, Nat.one_ne_zero, if_false]
          · simp only [w', World.freeze, Nat.one_ne_zero, if_false]
          · simp only [w', World.freeze, Nat.one_ne_zero, if_false]
        let b' : Blk := .cells st' false T 1 cs
        have hst : b'.st < c.nx → b'.st = (Blk.cells st' false T 0 cs).st := fun _ => rfl
        have hext := Ext.put hs g1 rfl (b' := b') rfl hw hst
        have hsim : Sim P (c.put w' r b') := Sim.put hs g1 rfl rfl hw hst fun he => by
          simp only [BlkRep, b']
          refine ⟨fun h => (by cases h), fun _ => ⟨arr, _, hblk, ⟨by intro j _ _ hj; simp only; omega, fun h => absurd rfl h⟩, e3, ?_⟩⟩
          obtain ⟨zs, z1, z2, z3, z4⟩ := e4.vals
          refine RepAt.of_vals (RepL.mono he _ _ z3) (fun j y hj => ?_) z4
          have := z2 j y hj
          simp only [World.cell?, e1] at this
          simp only [World.cell?]
          rw [show (c.put w' r b').w.heap[((c.put w' r b').loc r).1]? = some (.cells arr T _) from hblk]
          exact this
        refine ⟨c.put w' r b', .value (.slice (some ⟨(c.loc r).1, off, none⟩) n cap), _, ?_, .inl ⟨_, rfl, RepV.mono hext _ _ hx0⟩, hsim, hext, by rw [put_stE (show b'.st < c.nx from b2)]; exact hK⟩
        have hsh : c.w.shape? ((c.loc r).1) = some (T, arr.size) := by simp only [World.shape?, e1]
        simp only [convert, Sem.run_bind, run_und hu, Result.andThen_ok, beq_self_eq_true, run_und he, markStringish, run_shape, hsh, run_freeze, Sem.run_pure]
        rfl
      · cases h
    · cases h
  · cases h
end
end Hb
end

section
set_option linter.unusedVariables false
set_option linter.unusedSimpArgs false
set_option linter.constructorNameAsVariable false
set_option autoImplicit false
set_option linter.unusedSimpArgs false
set_option linter.unusedVariables false
namespace Hb
open Go
theorem step_cpy {P : Prg} {c : Cx} {K : AV → St → Prop} {t e ty : TypeId} {ts : Array TypeId} {k n : Nat} {x y : AV} {ux uy : Value} {σ' : Store} (hs : Sim P c) (hts : ts[0]? = some t) (hu : P.underlying t = some (.slice e)) (hk : tsz P e = some k)
    (h : copyS c.σ k x y = some (n, σ')) (hx : RepV c x ux) (hy : RepV c y uy) (hK : K (.i .i64 n) (σ', c.nx)) : Stepped1 P c (do pure (.value (← Builtin.copy_ ts ty #[ux, uy]))) K := by
  unfold copyS at h
  split at h
  · cases h
  rename_i m new hcs
  obtain ⟨hy', hnl, vs, hfc, hrv, hv1⟩ := slice_cells (P := P) hs hcs hy
  have triv : ∀ {a : Option Addr} {l cap : Nat}, m = 0 → n = 0 → σ' = c.σ → ux = .slice a l cap → Stepped1 P c (do pure (.value (← Builtin.copy_ ts ty #[ux, uy]))) K := by
    intro a l cap hm0 hn0 hσ hux
    subst hm0 hn0 hσ hux
    have hvs : vs = [] := by
      have := hrv.length
      rw [hnl] at this
      simp at this
      exact List.eq_nil_of_length_eq_zero this.symm
    subst hvs
    refine ⟨c, .value (goInt 0), .i .i64 0, ?_, .inl ⟨_, rfl, by simp [RepV, goInt]⟩, hs, Ext.refl c, hK⟩
    cases a <;> simp [Builtin.copy_, hts, run_und hu, hy'.len, run_tsz hk, hfc, storeCells]
  split at h
  · split at h
    · rename_i hm0
      cases h
      simp only [RepV] at hx
      exact triv hm0 rfl rfl hx
    · cases h
  · rename_i r st i l k'
    simp only [RepV] at hx
    split at h
    · rename_i hm0
      cases h
      obtain ⟨⟨b, cap, hb⟩, _⟩ := hx
      exact triv hm0 rfl rfl hb
    · rename_i hm0
      split at h
      · rename_i hcond
        obtain ⟨rfl, hml⟩ := hcond
        split at h
        · rename_i st' T fz old hat
          split at h
          · rename_i hc2
            obtain ⟨hlen, hfz⟩ := hc2
            cases h
            obtain ⟨off, cap, arr, T', fz', hv, hle, _, hoff⟩ := (hx.2.2 _ hat).2 rfl
            obtain ⟨ho, _⟩ := hoff (by omega)
            subst hv ho
            have hbd : i * k' + new.length ≤ old.length := by
              have := Nat.mul_le_mul_right k' hml
              rw [hnl]; omega
            obtain ⟨w', w1, w2, w3, w4⟩ := write_cells (P := P) (o := i * k') hs hat hrv hv1 hbd hfz
            refine ⟨_, .value (goInt n), .i .i64 n, ?_, .inl ⟨_, rfl, by simp [RepV, goInt]⟩, w2, w3, by rw [w4]; exact hK⟩
            simp [Builtin.copy_, hts, run_und hu, hy'.len, run_tsz hk, hfc, w1, Nat.min_eq_left hml]
            rfl
          · cases h
        · cases h
      · cases h
  · cases h
section
variable {P : Prg} {c : Cx} {N : Nat} {ρ : Nat → AV} {a : Act} {K : AV → St → Prop}
theorem appz_bytes {m : Nat} {i : TypeInfo} (hb : i.bytes ≤ 4096) (hm : m ≤ 1048576) : ¬ ((m : Int) * (i.bytes : Int) > 2 ^ 48) := by
  intro h
  have h1 : m * i.bytes ≤ 1048576 * 4096 := Nat.mul_le_mul hm hb
  have h2 : ((m : Int) * (i.bytes : Int)) = ((m * i.bytes : Nat) : Int) := by simp
  rw [h2] at h
  have h3 : (2 : Int) ^ 48 = 281474976710656 := by decide
  rw [h3] at h
  omega
theorem appz_fits {t u e : TypeId} {i : TypeInfo} {κ : IntKind} {zv : Value} {base : Option Addr} {n cap m : Nat} {ty : TypeId} {w : World}
    (ht : P.underlying t = some (.slice e)) (hu : P.underlying u = some (.int κ)) (hi : P.info? e = some i) (hb : i.bytes ≤ 4096) (hzv : ∀ w : World, (zeroValue e).run P w = .ok zv w)
    (hzs : zv.cells.size = i.size) (hk0 : 0 < i.size) (hm : m ≤ 1048576) (hlt : n + m ≤ cap) :
    (Builtin.append_ #[t, u] ty #[.slice base n cap, .int .i64 m]).run P w = (match base with
      | some a => ((storeCells (a.add (n * i.size)) (Builtin.zeroCells zv.cells m).toList).run P w).andThen fun _ w' => .ok (.slice base (n + m) cap) w'
      | none => .ok (.slice none (n + m) cap) w) := by
  have hwm := wrap_small (n := (m : Int)) (by omega) (by omega)
  have hneg : ¬ ((m : Int) < 0) := by omega
  have hbig := appz_bytes hb hm
  have hsz : tsz P e = some i.size := by simp [tsz, hi]
  have happ : (if m * i.size = 0 then pure #[] else do pure (Builtin.zeroCells (← zeroValue e).cells m) : Sem (Array Value)).run P w = .ok (Builtin.zeroCells zv.cells m) w := by
    split
    · rename_i h0
      have : m = 0 := by
        rcases Nat.mul_eq_zero.1 h0 with h | h
        · exact h
        · omega
      subst this
      simp [Builtin.zeroCells]
    · simp [hzv]
  simp only [Builtin.append_, List.getElem?_toArray, List.getElem?_cons_zero, List.getElem?_cons_succ, Sem.run_bind, run_und ht, run_und hu, Result.andThen_ok, run_tsz hsz, Sem.run_pure, Sem.run_ite, if_true, asInt, asIntOf,
    hwm, hneg, if_false, run_tinfo hi, hbig, Int.toNat_natCast, hlt, Bool.not_true, Bool.false_eq_true]
  simp only [Sem.run_ite, Sem.run_bind, Sem.run_pure] at happ
  rw [happ]
  cases base with
  | none => simp
  | some a => simp
theorem appz_grows {t u e : TypeId} {i : TypeInfo} {κ : IntKind} {zv : Value} {z : List AV} {base : Option Addr} {n cap m : Nat} {old : List AV} {ty : TypeId} (hs : Sim P c)
    (ht : P.underlying t = some (.slice e)) (hu : P.underlying u = some (.int κ)) (hi : P.info? e = some i) (hb : i.bytes ≤ 4096) (hzv : ∀ w : World, (zeroValue e).run P w = .ok zv w)
    (hzs : zv.cells.size = i.size) (hk0 : 0 < i.size) (r1 : RepL c.drew z zv.cells.toList) (r2 : ∀ v ∈ zv.cells.toList, v.oneCell' = true) (hzl : z.length = i.size)
    (hm : m ≤ 1048576) (hlt : cap < n + m) (hle : n + m ≤ 4194304) (hol : old.length = n * i.size)
    (hold : ∃ vs : List Value, (Builtin.firstCells i.size n (.slice base n cap)).run P c.w.drew = .ok vs.toArray c.w.drew ∧ RepL c.drew old vs ∧ ∀ v ∈ vs, v.oneCell' = true) :
    ∃ (newCap : Nat) (arr : Array Value), (Builtin.append_ #[t, u] ty #[.slice base n cap, .int .i64 m]).run P c.w = .ok (.slice (some ⟨c.w.heap.size, 0, none⟩) (n + m) newCap) (c.w.drew.alloc (.cells arr e)) ∧
      n + m ≤ newCap ∧ arr.size = newCap * i.size ∧ RepL c.drew (old ++ (List.range (m * i.size)).map fun j => (z[j % z.length]?).getD .u) (arr.toList.take (old ++ (List.range (m * i.size)).map fun j => (z[j % z.length]?).getD .u).length) ∧
      ∀ v ∈ arr.toList.take (old ++ (List.range (m * i.size)).map fun j => (z[j % z.length]?).getD .u).length, v.oneCell' = true := by
  obtain ⟨ovs, o1, o2, o3⟩ := hold
  obtain ⟨n2, n3⟩ := zero_row (c := c.drew) (n := m) r1 r2 hzl hk0
  have hzc : Builtin.zeroCells zv.cells m = (Array.range (m * i.size)).map (zv.cells[· % zv.cells.size]!) := by
    simp only [Builtin.zeroCells, hzs]
  rw [← hzc] at n2 n3
  generalize hnew : (List.range (m * i.size)).map (fun j => (z[j % z.length]?).getD .u) = new at n2 ⊢
  have hnl : new.length = m * i.size := by rw [← hnew]; simp
  have hsz : tsz P e = some i.size := by simp [tsz, hi]
  let q := Question.appendCap (n + m) cap e
  let newCap := q.cut (c.w.tape c.w.drawn q)
  have hcap : n + m ≤ newCap := by simp only [newCap, q, Question.cut]; omega
  have hnc := nextcap_le hlt
  have hbytes : ¬ Builtin.nextslicecap (n + m) cap * i.bytes > 2 ^ 48 := by
    have : Builtin.nextslicecap (n + m) cap * i.bytes ≤ (32 * (n + m) + 4000) * 4096 := Nat.mul_le_mul hnc hb
    have h2 : (32 * (n + m) + 4000) * 4096 ≤ (32 * 4194304 + 4000) * 4096 := Nat.mul_le_mul_right _ (by omega)
    omega
  have hwm := wrap_small (n := (m : Int)) (by omega) (by omega)
  have hneg : ¬ ((m : Int) < 0) := by omega
  have hbig := appz_bytes hb hm
  refine ⟨newCap, ovs.toArray ++ Builtin.zeroCells zv.cells m ++ Builtin.zeroCells zv.cells (newCap - (n + m)), ?_, hcap, ?_, ?_, ?_⟩
  · have hmax : ¬ (((n + m : Nat) : Int) > IntKind.i64.max ∧ (True ∨ i.bytes = 0)) := by
      intro h
      have : (IntKind.i64.max : Int) = 9223372036854775807 := rfl
      rw [this] at h
      omega
    have hneed : ¬ n + m ≤ cap := by omega
    have hch : (choose q).run P c.w = .ok newCap c.w.drew := by rw [run_choose]; rfl
    have happ : (if m * i.size = 0 then pure #[] else do pure (Builtin.zeroCells (← zeroValue e).cells m) : Sem (Array Value)).run P c.w.drew = .ok (Builtin.zeroCells zv.cells m) c.w.drew := by
      split
      · rename_i h0
        have : m = 0 := by
          rcases Nat.mul_eq_zero.1 h0 with h | h
          · exact h
          · omega
        subst this
        simp [Builtin.zeroCells]
      · simp [hzv]
    simp only [Builtin.append_, List.getElem?_toArray, List.getElem?_cons_zero, List.getElem?_cons_succ, Sem.run_bind, run_und ht, run_und hu, Result.andThen_ok, run_tsz hsz, Sem.run_pure, Sem.run_ite, if_true, asInt, asIntOf,
      hwm, hneg, if_false, run_tinfo hi, hbig, Int.toNat_natCast, hneed, Bool.not_true, Bool.false_eq_true, hbytes]
    rw [if_neg (by simpa using hmax)]
    simp only [Sem.run_bind, q, hch, Result.andThen_ok, run_tinfo hi, run_askRoom, o1]
    simp only [Sem.run_ite, Sem.run_bind, Sem.run_pure] at happ
    rw [happ]
    simp only [Result.andThen_ok, hzv, newRow, run_newObj, Sem.run_bind, Sem.run_pure]
    rfl
  · simp only [Array.size_append, List.size_toArray, Builtin.zeroCells, Array.size_map, Array.size_range]
    rw [← o2.length, hol, hzs, ← Nat.add_mul, ← Nat.add_mul]
    congr 1; omega
  · have hl : (old ++ new).length = (ovs ++ (Builtin.zeroCells zv.cells m).toList).length := by simp only [List.length_append, o2.length, n2.length]
    have : ((ovs.toArray ++ Builtin.zeroCells zv.cells m ++ Builtin.zeroCells zv.cells (newCap - (n + m))).toList).take (old ++ new).length = ovs ++ (Builtin.zeroCells zv.cells m).toList := by
      rw [hl]; simp only [Array.toList_append]
      rw [List.take_append_of_le_length (by simp)]; simp only [← List.length_append, List.take_length]
    rw [this]
    exact o2.append n2
  · have hl : (old ++ new).length = (ovs ++ (Builtin.zeroCells zv.cells m).toList).length := by simp only [List.length_append, o2.length, n2.length]
    have : ((ovs.toArray ++ Builtin.zeroCells zv.cells m ++ Builtin.zeroCells zv.cells (newCap - (n + m))).toList).take (old ++ new).length = ovs ++ (Builtin.zeroCells zv.cells m).toList := by
      rw [hl]; simp only [Array.toList_append]
      rw [List.take_append_of_le_length (by simp)]; simp only [← List.length_append, List.take_length]
    rw [this]
    intro v hv
    rcases List.mem_append.1 hv with hv | hv
    · exact o3 v hv
    · exact n3 v hv
theorem zero_const {e : TypeId} {z : List AV} (h : tzero P e = some z) : ∃ zv, (∀ w : World, (zeroValue e).run P w = .ok zv w) ∧ litL zv.cells.toList = some z := by
  unfold tzero at h
  cases hi : P.info? e with
  | none => rw [hi] at h; cases h
  | some i =>
    rw [hi] at h
    cases hz : i.zero with
    | none => simp only [hz] at h; cases h
    | some v =>
      simp only [hz] at h
      exact ⟨v, fun w => by simp [zeroValue, run_tinfo hi, hz], h⟩
theorem step_appz {t u e : TypeId} {i : TypeInfo} {κ : IntKind} {z : List AV} {ty : TypeId} {m : Nat} {x : AV} {ux : Value} (hs : Sim P c)
    (ht : P.underlying t = some (.slice e)) (hu : P.underlying u = some (.int κ)) (hi : P.info? e = some i) (hb : i.bytes ≤ 4096) (hz : tzero P e = some z) (hzl : z.length = i.size) (hk0 : 0 < i.size)
    (hx : RepV c x ux)
    (h : match xappend c.σ e i.size x m ((List.range (m * i.size)).map fun j => (z[j % z.length]?).getD .u) c.nx with | some (v, σ') => K v σ' | none => False) :
    Stepped1 P c (do pure (.value (← Builtin.append_ #[t, u] ty #[ux, .int .i64 m]))) K := by
  have hm : m ≤ 1048576 := by
    rcases Nat.lt_or_ge 1048576 m with h1 | h1
    · unfold xappend at h
      rw [if_pos h1] at h
      exact h.elim
    · exact h1
  obtain ⟨zv, hzv, hz2⟩ := zero_const hz
  obtain ⟨r1, r2⟩ := litL_rep (c := c) hz2
  obtain ⟨r1', _⟩ := litL_rep (c := c.drew) hz2
  have hzs : zv.cells.size = i.size := by rw [← Array.length_toList, ← r1.length]; exact hzl
  obtain ⟨q1, q2⟩ := zero_row (c := c) (n := m) r1 r2 hzl hk0
  have hzc : Builtin.zeroCells zv.cells m = (Array.range (m * i.size)).map (zv.cells[· % zv.cells.size]!) := by
    simp only [Builtin.zeroCells, hzs]
  rw [← hzc] at q1 q2
  exact step_app (F := fun ux => Builtin.append_ #[t, u] ty #[ux, .int .i64 m]) hs hx (by simp) q1 q2 (fun hle => appz_fits ht hu hi hb hzv hzs hk0 hm hle)
    (fun _ hlt hle hol hold => appz_grows hs ht hu hi hb hzv hzs hk0 r1' r2 hzl hm hlt hle hol hold) h
end
end Hb
end
