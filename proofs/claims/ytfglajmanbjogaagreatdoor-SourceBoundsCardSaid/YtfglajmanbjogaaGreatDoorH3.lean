/- A layer for programs of small data: values, stores, code, and an evaluator of code that the kernel runs; part 3. -/
import Derived.Test.YtfglajmanbjogaaGreatDoorH2
import Derived.Laws.BitsLemmas

section
set_option linter.unusedVariables false
set_option linter.unusedSimpArgs false
set_option linter.constructorNameAsVariable false
set_option autoImplicit false
set_option linter.unusedSimpArgs false
set_option linter.unusedVariables false
namespace Hb
open Go

section
variable {P : Prg} {c : Cx} {N : Nat} {ρ : Nat → AV} {a : Act} {K : AV → St → Prop}

theorem setCell_block (w : World) (b o : Nat) (v : Value) {arr : Array Value} {T : TypeId} {fz : Nat × Nat} (h : w.heap[b]? = some (.cells arr T fz)) :
    (w.setCell ⟨b, o, none⟩ v).heap[b]? = some (.cells (arr.setIfInBounds o v) T fz) := by
  have hlt := (Array.getElem?_eq_some_iff.1 h).1
  simp [World.setCell, Array.getElem?_modify, h]

theorem setCell_other (w : World) (b o : Nat) (v : Value) {x : Nat} (h : x ≠ b) : (w.setCell ⟨b, o, none⟩ v).heap[x]? = w.heap[x]? := by
  simp [World.setCell, Array.getElem?_modify, show ¬ b = x from fun e => h e.symm]

theorem take_set_drop (l vs : List Value) (k : Nat) (v : Value) (h : k + (vs.length + 1) ≤ l.length) :
    (l.set k v).take (k + 1) ++ (vs ++ (l.set k v).drop (k + 1 + vs.length)) = l.take k ++ (v :: vs ++ l.drop (k + (vs.length + 1))) := by
  apply List.ext_getElem?
  intro j
  simp only [List.getElem?_append, List.length_take, List.length_set, List.getElem?_take, List.getElem?_set, List.getElem?_drop, List.cons_append]
  by_cases h1 : j < k
  · simp [h1, show j < k + 1 from by omega, show j < l.length from by omega, show min (k+1) l.length = k + 1 from by omega, show min k l.length = k from by omega, show ¬ k = j from by omega]
  · by_cases h2 : j = k
    · subst h2
      simp [show j < l.length from by omega, show min (j+1) l.length = j + 1 from by omega, show min j l.length = j from by omega]
    · obtain ⟨m, rfl⟩ : ∃ m, j = k + 1 + m := ⟨j - (k + 1), by omega⟩
      simp only [show min (k+1) l.length = k + 1 from by omega, show min k l.length = k from by omega, show ¬ k + 1 + m < k + 1 from by omega, show ¬ k + 1 + m < k from by omega, if_false,
        show k + 1 + m - (k + 1) = m from by omega, show k + 1 + m - k = m + 1 from by omega, List.getElem?_cons_succ, List.getElem?_append]
      by_cases h3 : m < vs.length
      · simp [h3]
      · simp only [h3, if_false, List.getElem?_drop, List.getElem?_set]
        simp [show ¬ k = k + 1 + vs.length + (m - vs.length) from by omega]
        congr 1; omega

theorem run_stores (P : Prg) (b off : Nat) : ∀ (vs : List Value) (i : Nat) (w : World) (arr : Array Value) (T : TypeId) (fz : Nat × Nat), w.heap[b]? = some (.cells arr T fz) → fzOk fz (off + i) arr.size →
    off + i + vs.length ≤ arr.size → (∀ v ∈ vs, v.oneCell' = true) →
    ∃ (w' : World) (arr' : Array Value), (storeCells ⟨b, off, none⟩ vs i).run P w = .ok () w' ∧ w'.heap[b]? = some (.cells arr' T fz) ∧ arr'.size = arr.size ∧
      arr'.toList = arr.toList.take (off + i) ++ (vs ++ arr.toList.drop (off + i + vs.length)) ∧ (∀ x, x ≠ b → w'.heap[x]? = w.heap[x]?) ∧ w'.heap.size = w.heap.size ∧ w'.os = w.os ∧ w'.tape = w.tape ∧ w'.output = w.output
  | [], i, w, arr, T, fz, h, hf, hl, h1 => ⟨w, arr, by simp [storeCells], h, rfl, by simp, fun _ _ => rfl, rfl, rfl, rfl, rfl⟩
  | v :: vs, i, w, arr, T, fz, h, hf, hl, h1 => by
    simp only [List.length_cons] at hl
    have hlt : off + i < arr.size := by omega
    have hcell : w.cell? ⟨b, off + i, none⟩ = some arr[off + i] := by simp [World.cell?, h, hlt]
    have hfz : w.frozen? ⟨b, off + i, none⟩ = false := by
      have := hf (off + i) (Nat.le_refl _) hlt
      simp only [World.frozen?, h]
      simpa using this
    have h2 := setCell_block w b (off + i) v h
    obtain ⟨w', arr', k1, k2, k3, k4, k5, k6, k7, k8, k9⟩ := run_stores P b off vs (i + 1) (w.setCell ⟨b, off + i, none⟩ v) _ T fz h2 (fun j hj1 hj2 => hf j (by omega) (by simpa using hj2)) (by simp; omega) (fun v hv => h1 v (by simp [hv]))
    refine ⟨w', arr', ?_, k2, by simpa using k3, ?_, fun x hx => (k5 x hx).trans (setCell_other w b _ v hx), by simpa using k6, k7, k8, k9⟩
    · have hstore : (store ⟨b, off + i, none⟩ v).run P w = .ok () (w.setCell ⟨b, off + i, none⟩ v) := by
        rw [run_store P w _ v .plain (h1 v (by simp))]
        simp [hcell, hfz]
      simp only [storeCells, add_none, Sem.run_bind, hstore, Result.andThen_ok, k1]
    · rw [k4]
      simp only [Array.toList_setIfInBounds, List.length_cons]
      rw [show off + (i + 1) = off + i + 1 from by omega]
      exact take_set_drop _ _ _ _ (by simp; omega)

theorem own_size (hs : Sim P c) : ¬ c.own c.w.heap.size := by
  rintro ⟨r, blk, h1, h2, h3⟩
  have := hs.lt h1 h2
  omega

theorem zero_row {z : List AV} {zv : Value} {k n : Nat} (r1 : RepL c z zv.cells.toList) (r2 : ∀ v ∈ zv.cells.toList, v.oneCell' = true) (hzl : z.length = k) (hk0 : 0 < k) :
    RepL c ((List.range (n * k)).map fun j => (z[j % z.length]?).getD .u) ((Array.range (n * k)).map (zv.cells[· % zv.cells.size]!)).toList ∧ ∀ y ∈ ((Array.range (n * k)).map (zv.cells[· % zv.cells.size]!)).toList, y.oneCell' = true := by
  have hzs : zv.cells.size = k := by rw [← Array.length_toList, ← r1.length]; exact hzl
  constructor
  · refine RepL.of_get (by simp) fun j x hj => ?_
    simp only [List.getElem?_map, Option.map_eq_some_iff] at hj
    obtain ⟨j', hj', rfl⟩ := hj
    have hjlt : j < n * k := by
      rcases Nat.lt_or_ge j (n * k) with h | h
      · exact h
      · rw [List.getElem?_eq_none (by simpa using h)] at hj'; cases hj'
    have : j' = j := by simpa [List.getElem?_range hjlt] using hj'.symm
    subst this
    have hm : j' % z.length < z.length := Nat.mod_lt _ (by omega)
    obtain ⟨y, hy1, hy2⟩ := r1.get (List.getElem?_eq_getElem hm)
    refine ⟨y, ?_, by rw [List.getElem?_eq_getElem hm]; exact hy2⟩
    have hmod : j' % zv.cells.size = j' % z.length := by rw [hzs, hzl]
    have hy1' : zv.cells[j' % z.length]? = some y := by simpa using hy1
    simp [hjlt, hmod, getElem!_def, hy1']
  · intro y hy
    simp only [Array.toList_map, List.mem_map] at hy
    obtain ⟨j, hj, rfl⟩ := hy
    have hm : j % zv.cells.size < zv.cells.size := Nat.mod_lt _ (by omega)
    rw [getElem!_pos zv.cells _ hm]
    exact r2 _ (by simp)

theorem replaceAt_length {l cs : List AV} {o : Nat} (h : o + cs.length ≤ l.length) : (replaceAt l o cs).length = l.length := by
  simp [replaceAt]; omega

theorem step_store {t : TypeId} {n : Nat} {x y : AV} {u z : Value} {cs : List AV} {σ' : Store} (hs : Sim P c) (hn : tsz P t = some n) (hx : RepV c x u) (hy : RepV c y z) (hcs : y.cells = some cs)
    (hst : storeAt c.σ x n cs = some σ') (h : K (.tup []) (σ', c.nx)) : Stepped1 P c (do Instr.storeAt t u z; pure .skip) K := by
  unfold storeAt at hst
  split at hst
  · rename_i r st k i o
    split at hst
    · rename_i st' T fz old hat
      split at hst
      · rename_i hc
        obtain ⟨h1, h2, h3, h4⟩ := hc
        cases hst
        obtain ⟨g1, g2⟩ := Store.at_some hat
        have hv : (Blk.cells st' false T fz old).virt = false := rfl
        have hlive : c.σ.live r st = true := by unfold Store.live; rw [hat]; rfl
        have hu := hx.p_live hlive
        subst hu
        obtain ⟨r1, r2⟩ := RepV.cells hcs hy
        obtain ⟨b1, b2⟩ := hs.blk r _ g1
        simp only [BlkRep] at b1
        obtain ⟨arr, fzr, e1, e2, e3, e4⟩ := b1.2 trivial
        have hlen := r1.length
        have hk' : (i + 1) * k = i * k + k := by rw [Nat.add_mul]; simp
        have hbound : i * k + o + z.cells.toList.length ≤ arr.size := by omega
        obtain ⟨w', arr', k1, k2, k3, k4, k5, k6, k7, k8, k9⟩ := run_stores P (c.ι r) (i * k + o) z.cells.toList 0 c.w arr T fzr e1 (fun j hj1 hj2 => e2 j (by omega) hj2) (by omega) r2
        have hw : Wrote c (c.ι r) w' := ⟨k5, k6, fun arr0 T0 fz0 h0 => by rw [e1] at h0; cases h0; exact ⟨arr', fzr, k2, k3⟩, k7, k8, k9⟩
        let b' : Blk := .cells st' false T fz (replaceAt old (i * k + o) cs)
        have hsim : Sim P (c.put w' r b') := Sim.put hs g1 hv rfl hw (fun _ => rfl) fun he => by
          simp only [BlkRep, b']
          refine ⟨fun h => (by cases h), fun _ => ⟨arr', fzr, k2, by rw [k3]; exact e2, ?_, ?_⟩⟩
          · rw [replaceAt_length (by omega), k3]; exact e3
          · obtain ⟨ys, y1, y2, y3, y4⟩ := e4.vals
            have hys : ys = arr.toList.take old.length := by
              apply List.ext_getElem?
              intro j
              rw [List.getElem?_take]
              split
              · rename_i hj
                rw [← y1] at hj
                have := y2 j ys[j] (List.getElem?_eq_getElem hj)
                rw [List.getElem?_eq_getElem hj]
                simp [World.cell?, e1] at this
                simpa using this.symm
              · rename_i hj
                rw [List.getElem?_eq_none (by omega)]
            subst hys
            refine RepAt.of_vals (ys := (arr.toList.take (i * k + o)) ++ (z.cells.toList ++ (arr.toList.take old.length).drop (i * k + o + cs.length))) ?_ (fun j y hj => ?_) (fun y hy => ?_)
            · unfold replaceAt
              have y3' := RepL.mono he _ _ y3
              have t1 : (arr.toList.take old.length).take (i * k + o) = arr.toList.take (i * k + o) := by rw [List.take_take]; congr 1; omega
              rw [← t1]
              exact (y3'.take _).append ((RepL.mono he _ _ r1).append (y3'.drop _))
            · have hcell : (c.put w' r b').w.cell? ⟨c.ι r, 0 + j, none⟩ = arr'.toList[j]? := by
                simp [Cx.put, World.cell?, k2]
              rw [show (c.put w' r b').ι r = c.ι r from rfl, hcell, k4, ← hlen]
              simp only [Nat.add_zero]
              rw [List.getElem?_append] at hj ⊢
              split
              · rename_i hj'; rw [if_pos hj'] at hj; exact hj
              · rename_i hj'; rw [if_neg hj'] at hj
                rw [List.getElem?_append] at hj ⊢
                split
                · rename_i hj2; rw [if_pos hj2] at hj; exact hj
                · rename_i hj2; rw [if_neg hj2] at hj
                  rw [List.getElem?_drop, List.getElem?_take] at hj
                  split at hj
                  · rw [List.getElem?_drop]; exact hj
                  · cases hj
            · rcases List.mem_append.1 hy with hy | hy
              · exact y4 y (by
                  have t1 : (arr.toList.take old.length).take (i * k + o) = arr.toList.take (i * k + o) := by rw [List.take_take]; congr 1; omega
                  rw [← t1] at hy; exact List.mem_of_mem_take hy)
              · rcases List.mem_append.1 hy with hy | hy
                · exact r2 y hy
                · exact y4 y (List.mem_of_mem_drop hy)
        refine ⟨c.put w' r b', .skip, _, ?_, .inr ⟨rfl, rfl⟩, hsim, Ext.put hs g1 hv rfl hw (fun _ => rfl), ?_⟩
        have hsize : z.cells.size = n := by rw [← Array.length_toList, ← hlen]; exact h1
        simp [Instr.storeAt, Instr.sureAddr, storeVar, run_tsz hn, hsize, k1, Cx.put]
        have hnx : max c.nx (b'.st + 1) = c.nx := Nat.max_eq_left b2
        show K _ (c.σ.set r (some b'), max c.nx (b'.st + 1))
        rw [hnx]
        exact h
      · cases hst
    · cases hst
  · cases hst

end
end Hb
end

section
set_option linter.unusedVariables false
set_option linter.unusedSimpArgs false
set_option linter.constructorNameAsVariable false
set_option autoImplicit false
set_option linter.unusedSimpArgs false
set_option linter.unusedVariables false
namespace Hb
open Go

section
variable {P : Prg} {c : Cx} {N : Nat} {ρ : Nat → AV} {a : Act} {K : AV → Store → Prop}

theorem slice_cells {k m : Nat} {y : AV} {new : List AV} {u : Value} (hs : Sim P c) (h : cellsOfSlice c.σ k y = some (m, new)) (hy : RepV c y u) :
    ∃ (ya : Option Addr) (cap : Nat), u = .slice ya m cap ∧ new.length = m * k ∧
      ∃ vs : List Value, (Builtin.firstCells k m u).run P c.w = .ok vs.toArray c.w ∧ RepL c new vs ∧ ∀ v ∈ vs, v.oneCell' = true := by
  have zero : ∀ (ya : Option Addr), ∃ vs : List Value, (Builtin.firstCells k 0 (.slice ya 0 0)).run P c.w = .ok vs.toArray c.w ∧ RepL c [] vs ∧ ∀ v ∈ vs, v.oneCell' = true := by
    intro ya
    refine ⟨[], ?_, by simp [RepL], by simp⟩
    cases ya with
    | none => simp [Builtin.firstCells]
    | some a => simp [Builtin.firstCells, loadCells, loadCellsFrom]
  unfold cellsOfSlice at h
  split at h
  · rename_i k' n cs
    split at h
    · rename_i hk
      subst hk
      cases h
      simp only [RepV] at hy
      obtain ⟨h0, hy⟩ := hy
      rcases hy with ⟨rfl, rfl, rfl⟩ | ⟨b, off, cap, rfl, hcap, hown, hat⟩
      · exact ⟨none, 0, rfl, h0, zero none⟩
      · obtain ⟨ys, e1, e2, e3⟩ := run_loadRep (P := P) hat
        rw [h0] at e1
        exact ⟨_, cap, rfl, h0, ys, by simp only [Builtin.firstCells]; exact e1, e2, e3⟩
    · cases h
  · cases h
    simp only [RepV] at hy
    subst hy
    exact ⟨none, 0, rfl, by simp, zero none⟩
  · cases h
    simp only [RepV] at hy
    obtain ⟨ya, rfl, _⟩ := hy
    exact ⟨ya, 0, rfl, by simp, zero ya⟩
  · rename_i r st i n k'
    split at h
    · rename_i hk
      subst hk
      simp only [RepV] at hy
      obtain ⟨⟨ya, cap0, rfl⟩, _, hy⟩ := hy
      split at h
      · rename_i st' T fz cs hat
        cases h
        obtain ⟨hi0, ya', he, _⟩ := (hy _ hat).1 rfl
        subst hi0
        rw [he]
        exact ⟨ya', 0, rfl, by simp, zero ya'⟩
      · rename_i st' T fz cs hat
        split at h
        · rename_i hle
          cases h
          obtain ⟨off, cap, arr, T', fz', he, hcap, e3, e4⟩ := (hy _ hat).2 rfl
          rw [he]
          have hcells : c.σ.cells r st = some cs := by unfold Store.cells; rw [hat]
          obtain ⟨arr2, T2, fzr2, fz2, g1, g2, g3, g4, _⟩ := hs.cells hcells
          refine ⟨_, cap, rfl, by simp; omega, ?_⟩
          by_cases hcap0 : cap = 0
          · have : m = 0 := by omega
            subst this
            refine ⟨[], ?_, by simp [RepL], by simp⟩
            simp [Builtin.firstCells, loadCells, loadCellsFrom]
          · obtain ⟨w1, w2⟩ := e4 hcap0
            subst w1
            have hat' := (g4.drop (i * k')).take (m * k')
            rw [Nat.zero_add] at hat'
            obtain ⟨ys, f1, f2, f3⟩ := run_loadRep (P := P) hat'
            have hlen : ((cs.drop (i * k')).take (m * k')).length = m * k' := by simp; omega
            rw [hlen] at f1
            exact ⟨ys, by simp only [Builtin.firstCells]; exact f1, f2, f3⟩
        · cases h
      · cases h
    · cases h
  · cases h

theorem growBy_le (newLen : Nat) : ∀ (r c : Nat), Builtin.growBy newLen r c + 192 ≤ 2 ^ r * (c + 192)
  | 0, c => by simp [Builtin.growBy]
  | r + 1, c => by
    have h2 : 2 ^ (r + 1) * (c + 192) = 2 ^ r * (2 * (c + 192)) := by rw [Nat.pow_succ, Nat.mul_assoc]
    have h1 : 1 ≤ 2 ^ r := Nat.one_le_two_pow
    simp only [Builtin.growBy]
    split
    · rw [h2]
      have : 1 * (2 * (c + 192)) ≤ 2 ^ r * (2 * (c + 192)) := Nat.mul_le_mul_right _ h1
      omega
    · rw [h2]
      exact Nat.le_trans (growBy_le newLen r _) (Nat.mul_le_mul_left _ (by omega))

theorem nextcap_le {n c : Nat} (h : c < n) : Builtin.nextslicecap n c ≤ 32 * n + 4000 := by
  unfold Builtin.nextslicecap
  split
  · omega
  · split
    · omega
    · have := growBy_le n 4 c
      omega

/-- append, where the capacity doesn't serve. -/
theorem append_grows {t u e : TypeId} {i : TypeInfo} {z : List AV} {base : Option Addr} {n cap m : Nat} {y : Value} {old new : List AV} {ty : TypeId} (hs : Sim P c)
    (ht : P.underlying t = some (.slice e)) (hu : ∃ e', P.underlying u = some (.slice e')) (hi : P.info? e = some i) (hb : i.bytes ≤ 4096) (hz : tzero P e = some z) (hzl : z.length = i.size)
    (hlt : cap < n + m) (hle : n + m ≤ 4194304) (hylen : ∃ ya c', y = .slice ya m c') (hol : old.length = n * i.size) (hnl : new.length = m * i.size)
    (hold : ∃ vs : List Value, (Builtin.firstCells i.size n (.slice base n cap)).run P c.w.drew = .ok vs.toArray c.w.drew ∧ RepL c.drew old vs ∧ ∀ v ∈ vs, v.oneCell' = true)
    (hnew : ∃ vs : List Value, (Builtin.firstCells i.size m y).run P c.w.drew = .ok vs.toArray c.w.drew ∧ RepL c.drew new vs ∧ ∀ v ∈ vs, v.oneCell' = true) :
    ∃ (newCap : Nat) (arr : Array Value), (Builtin.append_ #[t, u] ty #[.slice base n cap, y]).run P c.w = .ok (.slice (some ⟨c.w.heap.size, 0, none⟩) (n + m) newCap) (c.w.drew.alloc (.cells arr e)) ∧
      n + m ≤ newCap ∧ arr.size = newCap * i.size ∧ RepL c.drew (old ++ new) (arr.toList.take (old ++ new).length) ∧ ∀ v ∈ arr.toList.take (old ++ new).length, v.oneCell' = true := by
  obtain ⟨ya, c', rfl⟩ := hylen
  obtain ⟨ovs, o1, o2, o3⟩ := hold
  obtain ⟨nvs, n1, n2, n3⟩ := hnew
  obtain ⟨e', hu⟩ := hu
  obtain ⟨zv, hz1, hz2⟩ := run_tzero hz c.w.drew
  obtain ⟨r1, r2⟩ := litL_rep (c := c) hz2
  have hzs : zv.cells.size = i.size := by rw [← Array.length_toList, ← r1.length]; exact hzl
  have hsz : tsz P e = some i.size := by simp [tsz, hi]
  let q := Question.appendCap (n + m) cap e
  let newCap := q.cut (c.w.tape c.w.drawn q)
  have hcap : n + m ≤ newCap := by simp only [newCap, q, Question.cut]; omega
  have hnc := nextcap_le hlt
  have hbytes : ¬ Builtin.nextslicecap (n + m) cap * i.bytes > 2 ^ 48 := by
    have : Builtin.nextslicecap (n + m) cap * i.bytes ≤ (32 * (n + m) + 4000) * 4096 := Nat.mul_le_mul hnc hb
    have h2 : (32 * (n + m) + 4000) * 4096 ≤ (32 * 4194304 + 4000) * 4096 := Nat.mul_le_mul_right _ (by omega)
    omega
  refine ⟨newCap, ovs.toArray ++ nvs.toArray ++ Builtin.zeroCells zv.cells (newCap - (n + m)), ?_, hcap, ?_, ?_, ?_⟩
  · have hmax : ¬ (((n + m : Nat) : Int) > IntKind.i64.max ∧ (False ∨ i.bytes = 0)) := by
      intro h
      have : (IntKind.i64.max : Int) = 9223372036854775807 := rfl
      rw [this] at h
      omega
    have hneed : ¬ n + m ≤ cap := by omega
    have hch : (choose q).run P c.w = .ok newCap c.w.drew := by rw [run_choose]; rfl
    simp only [Builtin.append_, List.getElem?_toArray, List.getElem?_cons_zero, List.getElem?_cons_succ, Sem.run_bind, run_und ht, run_und hu, Result.andThen_ok, run_tsz hsz, Sem.run_pure,
      Bool.false_eq_true, if_false, Builtin.lenOf, hneed, run_tinfo hi, Sem.run_ite, hbytes]
    rw [if_neg (by simpa using hmax)]
    simp only [Sem.run_bind, q, hch, Result.andThen_ok, run_tinfo hi, run_askRoom, o1, Bool.not_false, if_true, n1, hz1, newRow, run_newObj, Sem.run_pure]
    rfl
  · simp only [Array.size_append, List.size_toArray, Builtin.zeroCells, Array.size_map, Array.size_range]
    rw [← o2.length, ← n2.length, hol, hnl, hzs, ← Nat.add_mul, ← Nat.add_mul]
    congr 1; omega
  · have hl : (old ++ new).length = (ovs ++ nvs).length := by simp [o2.length, n2.length]
    have : ((ovs.toArray ++ nvs.toArray ++ Builtin.zeroCells zv.cells (newCap - (n + m))).toList).take (old ++ new).length = ovs ++ nvs := by
      rw [hl]; simp only [Array.toList_append]
      rw [List.take_append_of_le_length (by simp)]; simp only [← List.length_append, List.take_length]
    rw [this]
    exact o2.append n2
  · have hl : (old ++ new).length = (ovs ++ nvs).length := by simp [o2.length, n2.length]
    have : ((ovs.toArray ++ nvs.toArray ++ Builtin.zeroCells zv.cells (newCap - (n + m))).toList).take (old ++ new).length = ovs ++ nvs := by
      rw [hl]; simp only [Array.toList_append]
      rw [List.take_append_of_le_length (by simp)]; simp only [← List.length_append, List.take_length]
    rw [this]
    intro v hv
    rcases List.mem_append.1 hv with hv | hv
    · exact o3 v hv
    · exact n3 v hv


/-- append, where the capacity serves. -/
theorem append_fits {t u e : TypeId} {k : Nat} {base : Option Addr} {n cap m : Nat} {y : Value} {ty : TypeId} {w : World}
    (ht : P.underlying t = some (.slice e)) (hu : ∃ e', P.underlying u = some (.slice e')) (hk : tsz P e = some k) (hlt : n + m ≤ cap) (hylen : ∃ ya c', y = .slice ya m c') {vs : List Value}
    (hnew : (Builtin.firstCells k m y).run P w = .ok vs.toArray w) :
    (Builtin.append_ #[t, u] ty #[.slice base n cap, y]).run P w = (match base with
      | some a => ((storeCells (a.add (n * k)) vs).run P w).andThen fun _ w' => .ok (.slice base (n + m) cap) w'
      | none => .ok (.slice none (n + m) cap) w) := by
  obtain ⟨ya, c', rfl⟩ := hylen
  obtain ⟨e', hu⟩ := hu
  simp only [Builtin.append_, List.getElem?_toArray, List.getElem?_cons_zero, List.getElem?_cons_succ, Sem.run_bind, run_und ht, run_und hu, Result.andThen_ok, run_tsz hk, Sem.run_pure,
      Bool.false_eq_true, if_false, Builtin.lenOf, hlt, Bool.not_false, if_true, hnew]
  cases base with
  | none => simp
  | some a => simp

end
end Hb
end

section
set_option linter.unusedVariables false
set_option linter.unusedSimpArgs false
set_option linter.constructorNameAsVariable false
set_option autoImplicit false
set_option linter.unusedSimpArgs false
set_option linter.unusedVariables false
namespace Hb
open Go

section
variable {P : Prg} {c : Cx} {N : Nat} {ρ : Nat → AV} {a : Act} {K : AV → St → Prop}

/-- A block without a block of the machine's, behind the others. -/
def Cx.pushV (c : Cx) (b : Blk) : Cx := ⟨c.w, c.σ ++ [some b], c.ι, c.nx + 1, c.n0⟩

theorem Ext.pushV (hs : Sim P c) (b : Blk) (hst : b.st = c.nx) (hv : b.virt = true) : Ext c (c.pushV b) where
  keep x hx _ := rfl
  own x hx h := by
    obtain ⟨r, blk, h1, h2, h3⟩ := h
    rcases push_get h1 with ⟨hr, h1⟩ | ⟨rfl, rfl⟩
    · exact ⟨r, blk, h1, h2, h3⟩
    · rw [hv] at h2; cases h2
  size := Nat.le_refl _
  live r blk h hlt := by
    rcases push_get h with ⟨hr, h1⟩ | ⟨rfl, rfl⟩
    · exact ⟨blk, h1, rfl, rfl, fun _ => rfl⟩
    · omega
  nx := by simp [Cx.pushV]
  sz x arr T fz h := ⟨arr, fz, h, rfl⟩
  os := rfl
  tape := rfl
  output := rfl
  n0 := rfl
  keep0 x hx := rfl

theorem Sim.pushV (hs : Sim P c) {st T fz : Nat} (hst : st = c.nx) : Sim P (c.pushV (.cells st true T fz [])) := by
  have he := Ext.pushV hs (.cells st true T fz []) hst rfl
  refine hs.gen he fun r b' h => ?_
  rcases push_get h with ⟨hr, h1⟩ | ⟨rfl, rfl⟩
  · exact .inl ⟨h1, rfl, fun _ => rfl⟩
  · refine .inr ⟨by simp [BlkRep], by simp [Cx.pushV, Blk.st, hst], fun hv => by cases hv⟩

theorem step_append {t u e : TypeId} {i : TypeInfo} {z : List AV} {ty : TypeId} {m : Nat} {x y : AV} {ux uy : Value} {new : List AV} (hs : Sim P c)
    (ht : P.underlying t = some (.slice e)) (hu : ∃ e', P.underlying u = some (.slice e')) (hi : P.info? e = some i) (hb : i.bytes ≤ 4096) (hz : tzero P e = some z) (hzl : z.length = i.size)
    (hx : RepV c x ux) (hy : RepV c y uy) (hc : cellsOfSlice c.σ i.size y = some (m, new))
    (h : match xappend c.σ e i.size x m new c.nx with | some (v, σ') => K v σ' | none => False) :
    Stepped1 P c (do pure (.value (← Builtin.append_ #[t, u] ty #[ux, uy]))) K := by
  have hsz : tsz P e = some i.size := by simp [tsz, hi]
  obtain ⟨ya, cy, hyv, hnl, vs, hfc, hrv, hv1⟩ := slice_cells (P := P) hs hc hy
  obtain ⟨_, _, _, _, vs', hfc', hrv', hv1'⟩ := slice_cells (P := P) (c := c.drew) hs.drew hc (hy.mono (Ext.drew c))
  have hy' : ∃ ya c', uy = .slice ya m c' := ⟨ya, cy, hyv⟩
  obtain ⟨rv, σ', h, hK⟩ : ∃ v σ', xappend c.σ e i.size x m new c.nx = some (v, σ') ∧ K v σ' := by
    cases hxa : xappend c.σ e i.size x m new c.nx with
    | none => rw [hxa] at h; exact h.elim
    | some p => rw [hxa] at h; exact ⟨p.1, p.2, rfl, h⟩
  unfold xappend at h
  split at h
  · cases h
  rename_i hm
  have fresh : ∀ {base : Option Addr}, (∀ x, base = some x → x.spot = none) → ux = .slice base 0 0 → K (.gr c.σ.length c.nx 0 m i.size) (c.σ ++ [some (.cells c.nx (decide (m = 0)) e 0 new)], c.nx + 1) →
      Stepped1 P c (do pure (.value (← Builtin.append_ #[t, u] ty #[ux, uy]))) K := by
    intro base hbs hux hk
    subst hux
    by_cases hm0 : m = 0
    · subst hm0
      have hvs : vs = [] := by
        have := hrv.length
        rw [hnl] at this
        simp at this
        exact List.eq_nil_of_length_eq_zero this.symm
      subst hvs
      have hnew : new = [] := List.eq_nil_of_length_eq_zero (by rw [hnl]; simp)
      subst hnew
      have hrun := append_fits (P := P) (base := base) (n := 0) (cap := 0) (ty := ty) (w := c.w) ht hu hsz (Nat.le_refl _) hy' hfc
      refine ⟨c.pushV (.cells c.nx true e 0 []), .value (.slice base 0 0), _, ?_, .inl ⟨_, rfl, ?_⟩, Sim.pushV hs rfl, Ext.pushV hs _ rfl rfl, by simpa [Cx.st, Cx.pushV] using hk⟩
      · simp only [Sem.run_bind, hrun]
        cases base with
        | none => simp [Cx.pushV]
        | some a => simp [Cx.pushV, storeCells]
      · simp only [RepV]
        refine ⟨⟨_, _, rfl⟩, by simp [Cx.pushV], fun blk hb => ⟨fun hv => ⟨trivial, _, rfl, hbs⟩, fun hv => ?_⟩⟩
        exfalso
        have : (c.pushV (.cells c.nx true e 0 [])).σ.at c.σ.length c.nx = some (.cells c.nx true e 0 []) := Store.at_of (by simp [Cx.pushV]) rfl
        rw [this] at hb
        cases hb
        cases hv
    · have hold : ∃ vs : List Value, (Builtin.firstCells i.size 0 (.slice base 0 0)).run P c.w.drew = .ok vs.toArray c.w.drew ∧ RepL c.drew [] vs ∧ ∀ v ∈ vs, v.oneCell' = true := by
        refine ⟨[], ?_, by simp [RepL], by simp⟩
        cases base <;> simp [Builtin.firstCells, loadCells, loadCellsFrom]
      obtain ⟨newCap, arr, hrun, hcap, hsize, hr, h1⟩ := append_grows (ty := ty) (base := base) (n := 0) (cap := 0) hs ht hu hi hb hz hzl (by omega) (by omega) hy' (by simp) hnl hold ⟨vs', hfc', hrv', hv1'⟩
      simp only [List.nil_append, Nat.zero_add] at hr h1 hrun hcap
      have hsd := hs.drew
      have hst : (Blk.cells c.nx false e 0 new).st = c.drew.nx := rfl
      have he := Ext.push hsd (.cells arr e) (.cells c.nx false e 0 new) hst
      have hle : new.length ≤ arr.size := by rw [hnl, hsize]; exact Nat.mul_le_mul_right _ hcap
      have hh : (c.drew.push (.cells arr e) (.cells c.nx false e 0 new)).w.heap[c.w.heap.size]? = some (.cells arr e (0, 0)) := heap_alloc_new c.w.drew _
      have hsim : Sim P (c.drew.push (.cells arr e) (.cells c.nx false e 0 new)) := Sim.push hsd _ _ hst fun he => by
        simp only [BlkRep]
        have hι : (c.drew.push (.cells arr e) (.cells c.nx false e 0 new)).ι c.drew.σ.length = c.w.heap.size := by simp [Cx.push, Cx.drew]
        refine ⟨fun h => (by cases h), fun _ => ⟨arr, (0, 0), by rw [hι]; exact hh, fzOk_zero _ _, hle, ?_⟩⟩
        rw [hι]
        exact repAt_heap hh (by rw [List.drop_zero]; exact RepL.mono he _ _ hr) (by rw [List.drop_zero]; exact h1)
      refine ⟨c.drew.push (.cells arr e) (.cells c.nx false e 0 new), .value (.slice (some ⟨c.w.heap.size, 0, none⟩) m newCap), _, ?_, .inl ⟨_, rfl, ?_⟩, hsim, (Ext.drew c).trans he, by simpa [hm0, Cx.st, Cx.push, Cx.drew] using hk⟩
      · simp only [Sem.run_bind, hrun]; rfl
      · simp only [RepV]
        refine ⟨⟨_, _, rfl⟩, by simp [Cx.push, Cx.drew], fun blk hb => ⟨fun hv => ?_, fun hv => ?_⟩⟩
        · exfalso
          have : (c.drew.push (.cells arr e) (.cells c.nx false e 0 new)).σ.at c.σ.length c.nx = some (.cells c.nx false e 0 new) := Store.at_of (by simp [Cx.push, Cx.drew]) rfl
          rw [this] at hb
          cases hb
          cases hv
        · refine ⟨0, newCap, arr, e, (0, 0), ?_, hcap, ?_, fun _ => ⟨by simp, by rw [hsize]; simp⟩⟩
          · simp [Cx.push, Cx.drew]
          · have hι : (c.drew.push (.cells arr e) (.cells c.nx false e 0 new)).ι c.σ.length = c.w.heap.size := by simp [Cx.push, Cx.drew]
            rw [hι]; exact hh
  have grown : ∀ {n cap : Nat} {base : Option Addr} {old : List AV}, ux = .slice base n cap → m ≠ 0 → cap < n + m → n ≤ 1048576 → old.length = n * i.size →
      (∃ vs : List Value, (Builtin.firstCells i.size n (.slice base n cap)).run P c.w.drew = .ok vs.toArray c.w.drew ∧ RepL c.drew old vs ∧ ∀ v ∈ vs, v.oneCell' = true) →
      K (.gr c.σ.length c.nx 0 (n + m) i.size) (c.σ ++ [some (.cells c.nx false e 0 (old ++ new))], c.nx + 1) →
      Stepped1 P c (do pure (.value (← Builtin.append_ #[t, u] ty #[ux, uy]))) K := by
    intro n cap base old hux hm0 hlt hn hol hold hk
    subst hux
    obtain ⟨newCap, arr, hrun, hcap, hsize, hr, h1⟩ := append_grows (ty := ty) (base := base) (n := n) (cap := cap) hs ht hu hi hb hz hzl hlt (by omega) hy' hol hnl hold ⟨vs', hfc', hrv', hv1'⟩
    have hsd := hs.drew
    have hst : (Blk.cells c.nx false e 0 (old ++ new)).st = c.drew.nx := rfl
    have he := Ext.push hsd (.cells arr e) (.cells c.nx false e 0 (old ++ new)) hst
    have hle : (old ++ new).length ≤ arr.size := by
      rw [List.length_append, hol, hnl, hsize, ← Nat.add_mul]; exact Nat.mul_le_mul_right _ hcap
    have hh : (c.drew.push (.cells arr e) (.cells c.nx false e 0 (old ++ new))).w.heap[c.w.heap.size]? = some (.cells arr e (0, 0)) := heap_alloc_new c.w.drew _
    have hsim : Sim P (c.drew.push (.cells arr e) (.cells c.nx false e 0 (old ++ new))) := Sim.push hsd _ _ hst fun he => by
      simp only [BlkRep]
      have hι : (c.drew.push (.cells arr e) (.cells c.nx false e 0 (old ++ new))).ι c.drew.σ.length = c.w.heap.size := by simp [Cx.push, Cx.drew]
      refine ⟨fun h => (by cases h), fun _ => ⟨arr, (0, 0), by rw [hι]; exact hh, fzOk_zero _ _, hle, ?_⟩⟩
      rw [hι]
      exact repAt_heap hh (by rw [List.drop_zero]; exact RepL.mono he _ _ hr) (by rw [List.drop_zero]; exact h1)
    refine ⟨c.drew.push (.cells arr e) (.cells c.nx false e 0 (old ++ new)), .value (.slice (some ⟨c.w.heap.size, 0, none⟩) (n + m) newCap), _, ?_, .inl ⟨_, rfl, ?_⟩, hsim, (Ext.drew c).trans he, by simpa [Cx.st, Cx.push, Cx.drew] using hk⟩
    · simp only [Sem.run_bind, hrun]; rfl
    · simp only [RepV]
      refine ⟨⟨_, _, rfl⟩, by simp [Cx.push, Cx.drew], fun blk hb => ⟨fun hv => ?_, fun hv => ?_⟩⟩
      · exfalso
        have : (c.drew.push (.cells arr e) (.cells c.nx false e 0 (old ++ new))).σ.at c.σ.length c.nx = some (.cells c.nx false e 0 (old ++ new)) := Store.at_of (by simp [Cx.push, Cx.drew]) rfl
        rw [this] at hb
        cases hb
        cases hv
      · refine ⟨0, newCap, arr, e, (0, 0), ?_, hcap, ?_, fun _ => ⟨by simp, by rw [hsize]; simp⟩⟩
        · simp [Cx.push, Cx.drew]
        · have hι : (c.drew.push (.cells arr e) (.cells c.nx false e 0 (old ++ new))).ι c.σ.length = c.w.heap.size := by simp [Cx.push, Cx.drew]
          rw [hι]; exact hh
  -- a block that is known gets another block of the machine's
  have moved : ∀ {r n cap fz : Nat} {base : Option Addr} {old : List AV}, ux = .slice base n cap → m ≠ 0 → cap < n + m → n ≤ 1048576 → old.length = n * i.size → fz ≤ n * i.size → r < c.σ.length →
      (∃ vs : List Value, (Builtin.firstCells i.size n (.slice base n cap)).run P c.w.drew = .ok vs.toArray c.w.drew ∧ RepL c.drew old vs ∧ ∀ v ∈ vs, v.oneCell' = true) →
      K (.gr r c.nx 0 (n + m) i.size) (c.σ.set r (some (.cells c.nx false e fz (old ++ new))), c.nx + 1) →
      Stepped1 P c (do pure (.value (← Builtin.append_ #[t, u] ty #[ux, uy]))) K := by
    intro r n cap fz base old hux hm0 hlt hn hol hfz hr hold hk
    subst hux
    obtain ⟨newCap, arr, hrun, hcap, hsize, hr', h1⟩ := append_grows (ty := ty) (base := base) (n := n) (cap := cap) hs ht hu hi hb hz hzl hlt (by omega) hy' hol hnl hold ⟨vs', hfc', hrv', hv1'⟩
    have hsd := hs.drew
    have hst : c.drew.nx ≤ (Blk.cells c.nx false e fz (old ++ new)).st := Nat.le_refl _
    have he := Ext.move hsd (o := .cells arr e) (r := r) hst
    have hle : (old ++ new).length ≤ arr.size := by
      rw [List.length_append, hol, hnl, hsize, ← Nat.add_mul]; exact Nat.mul_le_mul_right _ hcap
    have hh : (c.drew.move (.cells arr e) r (.cells c.nx false e fz (old ++ new))).w.heap[c.w.heap.size]? = some (.cells arr e (0, 0)) := heap_alloc_new c.w.drew _
    have hι : (c.drew.move (.cells arr e) r (.cells c.nx false e fz (old ++ new))).ι r = c.w.heap.size := by simp [Cx.move, Cx.drew]
    have hsim : Sim P (c.drew.move (.cells arr e) r (.cells c.nx false e fz (old ++ new))) := Sim.move hsd hst fun he => by
      simp only [BlkRep]
      refine ⟨fun h => (by cases h), fun _ => ⟨arr, (0, 0), by rw [hι]; exact hh, fzOk_zero _ _, hle, ?_⟩⟩
      rw [hι]
      exact repAt_heap hh (by rw [List.drop_zero]; exact RepL.mono he _ _ hr') (by rw [List.drop_zero]; exact h1)
    have hat : (c.drew.move (.cells arr e) r (.cells c.nx false e fz (old ++ new))).σ.at r c.nx = some (.cells c.nx false e fz (old ++ new)) :=
      Store.at_of (by simp [Cx.move, Cx.drew, hr]) rfl
    refine ⟨c.drew.move (.cells arr e) r (.cells c.nx false e fz (old ++ new)), .value (.slice (some ⟨c.w.heap.size, 0, none⟩) (n + m) newCap), _, ?_, .inl ⟨_, rfl, ?_⟩, hsim, (Ext.drew c).trans he, by simpa [Cx.st, Cx.move, Cx.drew, Blk.st, Nat.max_eq_right (Nat.le_succ c.nx)] using hk⟩
    · simp only [Sem.run_bind, hrun]; rfl
    · simp only [RepV]
      refine ⟨⟨_, _, rfl⟩, by simp only [Cx.move, Blk.st]; omega, fun blk hb => ⟨fun hv => ?_, fun hv => ?_⟩⟩
      · exfalso
        rw [hat] at hb
        cases hb
        cases hv
      · refine ⟨0, newCap, arr, e, (0, 0), by rw [hι], hcap, by rw [hι]; exact hh, fun _ => ⟨by simp, by rw [hsize]; simp⟩⟩
  split at h
  · simp only [RepV] at hx
    cases h
    exact fresh (by intro x h; cases h) hx hK
  · simp only [RepV] at hx
    cases h
    obtain ⟨base, hx, hbs⟩ := hx
    exact fresh hbs hx hK
  · rename_i k' n cs _
    split at h
    · rename_i hcond
      obtain ⟨hk', hn⟩ := hcond
      subst hk'
      have hx0 := hx
      simp only [RepV] at hx
      obtain ⟨hcl, hx⟩ := hx
      have hux : ∃ base, ux = .slice base n n := by
        rcases hx with ⟨_, hn0, hv⟩ | ⟨b, off, cap, hv, hcap, _⟩
        · exact ⟨none, by rw [hv, hn0]⟩
        · exact ⟨_, by rw [hv, ← hcap]⟩
      obtain ⟨base, hux⟩ := hux
      split at h
      · rename_i hm0
        cases h
        subst hm0
        have hvs : vs = [] := by
          have := hrv.length
          rw [hnl] at this
          simp at this
          exact List.eq_nil_of_length_eq_zero this.symm
        subst hvs
        have hrun := append_fits (P := P) (base := base) (n := n) (cap := n) (ty := ty) (w := c.w) ht hu hsz (Nat.le_refl _) hy' hfc
        rw [hux] at hx0 ⊢
        refine ⟨c, .value (.slice base n n), _, ?_, .inl ⟨_, rfl, hx0⟩, hs, Ext.refl c, hK⟩
        simp only [Sem.run_bind, hrun]
        cases base with
        | none => simp
        | some a => simp [storeCells]
      · rename_i hm0
        cases h
        have hcsl : cellsOfSlice c.drew.σ i.size (.sl i.size n cs) = some (n, cs) := by simp [cellsOfSlice]
        obtain ⟨ya2, cap2, hv2, hl2, hold⟩ := slice_cells (P := P) (c := c.drew) hs.drew hcsl (hx0.mono (Ext.drew c))
        rw [hux] at hold
        exact grown hux hm0 (by omega) hn hl2 hold hK
    · cases h
  · rename_i r st i0 n k' _
    split at h
    · rename_i hcond
      obtain ⟨hk', hi0, hn⟩ := hcond
      subst hi0
      have hx0 := hx
      simp only [RepV] at hx
      obtain ⟨⟨base, cap, hux⟩, hstlt, hx⟩ := hx
      have same : n + 0 ≤ cap → m = 0 → K (.gr r st 0 n k') c.st → Stepped1 P c (do pure (.value (← Builtin.append_ #[t, u] ty #[ux, uy]))) K := by
        intro hle hm0 hk
        subst hm0
        have hvs : vs = [] := by
          have := hrv.length
          rw [hnl] at this
          simp at this
          exact List.eq_nil_of_length_eq_zero this.symm
        subst hvs
        have hrun := append_fits (P := P) (base := base) (n := n) (cap := cap) (ty := ty) (w := c.w) ht hu hsz hle hy' hfc
        rw [hux] at hx0 ⊢
        refine ⟨c, .value (.slice base n cap), _, ?_, .inl ⟨_, rfl, hx0⟩, hs, Ext.refl c, hk⟩
        simp only [Sem.run_bind, hrun]
        cases base with
        | none => simp
        | some a => simp [storeCells]
      split at h
      · rename_i st' T fz cs hat
        obtain ⟨hn0, base', hbe, _⟩ := (hx _ hat).1 rfl
        rw [hux] at hbe
        cases hbe
        split at h
        · rename_i hm0
          cases h
          exact same (by omega) hm0 hK
        · rename_i hm0
          cases h
          obtain ⟨g1, g2⟩ := Store.at_some hat
          refine moved (r := r) (fz := 0) (old := []) hux hm0 (by omega) (by omega) (by simp) (by omega) (lt_of_get g1) ⟨[], ?_, by simp [RepL], by simp⟩ (by simpa using hK)
          cases base <;> simp [Builtin.firstCells, loadCells, loadCellsFrom]
      · rename_i st' T' fz old hat
        obtain ⟨off, cap', arr, T2, fz2, hbe, hcap, e3, e4⟩ := (hx _ hat).2 rfl
        rw [hux] at hbe
        cases hbe
        split at h
        · rename_i hm0
          cases h
          exact same (by omega) hm0 hK
        · rename_i hm0
          split at h
          · rename_i hcond2
            obtain ⟨hT, hnold, hfz⟩ := hcond2
            cases h
            subst hk'
            obtain ⟨g1, g2⟩ := Store.at_some hat
            by_cases hfit : n + m ≤ cap
            · subst hT
              obtain ⟨b1, b2⟩ := hs.blk r _ g1
              simp only [BlkRep] at b1
              obtain ⟨arr0, fzr, q1, q2, q3, q4⟩ := b1.2 trivial
              rw [e3] at q1
              cases q1
              obtain ⟨w1, w2⟩ := e4 (by omega)
              have woff : off = 0 := by simpa using w1
              subst woff
              rw [Nat.zero_add] at w2
              have hvl : vs.length = m * i.size := by rw [← hrv.length]; exact hnl
              have hroom : n * i.size + m * i.size ≤ arr.size := by
                rw [← Nat.add_mul]; exact Nat.le_trans (Nat.mul_le_mul_right _ hfit) w2
              have hrun := append_fits (P := P) (base := some ⟨c.ι r, 0, none⟩) (n := n) (cap := cap) (ty := ty) (w := c.w) ht hu hsz hfit hy' hfc
              simp only [add_none, Nat.zero_add] at hrun
              obtain ⟨w', arr', k1, k2, k3, k4, k5, k6, k7, k8, k9⟩ := run_stores P (c.ι r) (n * i.size) vs 0 c.w arr T' fz2 e3 (fun j hj1 hj2 => q2 j (by omega) hj2) (by omega) hv1
              simp only [Nat.add_zero] at k4
              have hw : Wrote c (c.ι r) w' := ⟨k5, k6, fun arr0 T0 fz0 h0 => by rw [e3] at h0; cases h0; exact ⟨arr', fz2, k2, k3⟩, k7, k8, k9⟩
              have hst : (Blk.cells c.nx false T' fz (old.take (n * i.size) ++ new)).st < c.nx → (Blk.cells c.nx false T' fz (old.take (n * i.size) ++ new)).st = (Blk.cells st' false T' fz old).st := by
                intro h; simp [Blk.st] at h
              have hsim : Sim P (c.put w' r (.cells c.nx false T' fz (old.take (n * i.size) ++ new))) := Sim.put hs g1 rfl rfl hw hst fun he => by
                simp only [BlkRep]
                refine ⟨fun h => (by cases h), fun _ => ⟨arr', fz2, k2, by rw [k3]; exact q2, ?_, ?_⟩⟩
                · rw [k3]; simp only [List.length_append, List.length_take, hnl]; omega
                · obtain ⟨ys, y1, y2, y3, y4⟩ := q4.vals
                  have hys : ys = arr.toList.take old.length := by
                    apply List.ext_getElem?
                    intro j
                    rw [List.getElem?_take]
                    split
                    · rename_i hj
                      rw [← y1] at hj
                      have := y2 j ys[j] (List.getElem?_eq_getElem hj)
                      rw [List.getElem?_eq_getElem hj]
                      simp [World.cell?, e3] at this
                      simpa using this.symm
                    · rename_i hj
                      rw [List.getElem?_eq_none (by omega)]
                  subst hys
                  have t1 : (arr.toList.take old.length).take (n * i.size) = arr.toList.take (n * i.size) := by rw [List.take_take]; congr 1; omega
                  refine RepAt.of_vals (ys := arr.toList.take (n * i.size) ++ vs) ?_ (fun j y hj => ?_) (fun y hy => ?_)
                  · rw [← t1]
                    exact ((RepL.mono he _ _ y3).take _).append (RepL.mono he _ _ hrv)
                  · have hcell : (c.put w' r (.cells c.nx false T' fz (old.take (n * i.size) ++ new))).w.cell? ⟨c.ι r, 0 + j, none⟩ = arr'.toList[j]? := by
                      simp [Cx.put, World.cell?, k2]
                    rw [show (c.put w' r (.cells c.nx false T' fz (old.take (n * i.size) ++ new))).ι r = c.ι r from rfl, hcell, k4, ← List.append_assoc, List.getElem?_append]
                    rw [if_pos]
                    · exact hj
                    · exact (List.getElem?_eq_some_iff.1 hj).1
                  · rcases List.mem_append.1 hy with hy | hy
                    · rw [← t1] at hy; exact y4 y (List.mem_of_mem_take hy)
                    · exact hv1 y hy
              have hat2 : (c.put w' r (.cells c.nx false T' fz (old.take (n * i.size) ++ new))).σ.at r c.nx = some (.cells c.nx false T' fz (old.take (n * i.size) ++ new)) :=
                Store.at_of (by simp [Cx.put, lt_of_get g1]) rfl
              rw [hux]
              refine ⟨c.put w' r (.cells c.nx false T' fz (old.take (n * i.size) ++ new)), .value (.slice (some ⟨c.ι r, 0, none⟩) (n + m) cap), _, ?_, .inl ⟨_, rfl, ?_⟩, hsim, Ext.put hs g1 rfl rfl hw hst, by simpa [Cx.st, Cx.put, Blk.st, Nat.max_eq_right (Nat.le_succ c.nx)] using hK⟩
              · simp only [Sem.run_bind, hrun, k1, Result.andThen_ok, Sem.run_pure]; rfl
              · simp only [RepV]
                refine ⟨⟨_, _, rfl⟩, by simp only [Cx.put, Blk.st]; omega, fun blk hb => ⟨fun hv => ?_, fun hv => ?_⟩⟩
                · exfalso
                  rw [hat2] at hb
                  cases hb
                  cases hv
                · exact ⟨0, cap, arr', T', fz2, rfl, hfit, k2, fun _ => ⟨by simp, by rw [k3]; simpa using w2⟩⟩
            · have hcs : cellsOfSlice c.drew.σ i.size (.gr r st 0 n i.size) = some (n, old.take (n * i.size)) := by
                have hat' : c.drew.σ.at r st = some (.cells st' false T' fz old) := hat
                simp [cellsOfSlice, hat', hnold]
              obtain ⟨ya2, cap2, hv2, hl2, hold⟩ := slice_cells (P := P) (c := c.drew) hs.drew hcs (hx0.mono (Ext.drew c))
              rw [hux] at hv2 hold
              exact moved (r := r) (fz := fz) (old := old.take (n * i.size)) hux hm0 (by omega) hn (by simp; omega) hfz (lt_of_get g1) hold (by subst hT; exact hK)
          · cases h
      · cases h
    · cases h
  · cases h

end
end Hb
end

section
set_option linter.unusedVariables false
set_option linter.unusedSimpArgs false
set_option linter.constructorNameAsVariable false
set_option autoImplicit false
set_option linter.unusedSimpArgs false
set_option linter.unusedVariables false
namespace Hb
open Go

section
variable {P : Prg} {c : Cx} {N : Nat} {ρ : Nat → AV} {a : Act} {K : AV → St → Prop}

/-- A new row that is the call's own, behind a slice's value. -/
theorem new_row (hs : Sim P c) {T : TypeId} {arr : Array Value} {fz : Nat × Nat} {cs : List AV} {k n cap : Nat} (hr : RepL c cs (arr.toList.take cs.length)) (h1 : ∀ y ∈ arr.toList.take cs.length, y.oneCell' = true)
    (hl : cs.length ≤ arr.size) (hfz : fzOk fz 0 arr.size) (hn : n ≤ cap) (hcap : cap * k ≤ arr.size) :
    ∃ c' : Cx, c'.w = c.w.alloc (.cells arr T fz) ∧ c'.st = (c.σ ++ [some (.cells c.nx false T 0 cs)], c.nx + 1) ∧ Sim P c' ∧ Ext c c' ∧
      RepV c' (.gr c.σ.length c.nx 0 n k) (.slice (some ⟨c.w.heap.size, 0, none⟩) n cap) := by
  have hst : (Blk.cells c.nx false T 0 cs).st = c.nx := rfl
  have hι : (c.push (.cells arr T fz) (.cells c.nx false T 0 cs)).ι c.σ.length = c.w.heap.size := by simp [Cx.push]
  have hh : (c.push (.cells arr T fz) (.cells c.nx false T 0 cs)).w.heap[c.w.heap.size]? = some (.cells arr T fz) := heap_alloc_new c.w _
  refine ⟨c.push (.cells arr T fz) (.cells c.nx false T 0 cs), rfl, rfl, ?_, Ext.push hs _ _ hst, ?_⟩
  · refine Sim.push hs _ _ hst fun he => ?_
    simp only [BlkRep]
    refine ⟨fun h => (by cases h), fun _ => ⟨arr, fz, by rw [hι]; exact hh, hfz, hl, ?_⟩⟩
    rw [hι]
    exact repAt_heap hh (by rw [List.drop_zero]; exact RepL.mono he _ _ hr) (by rw [List.drop_zero]; exact h1)
  · simp only [RepV]
    refine ⟨⟨_, _, rfl⟩, by simp [Cx.push], fun blk hb => ⟨fun hv => ?_, fun hv => ?_⟩⟩
    · exfalso
      have : (c.push (.cells arr T fz) (.cells c.nx false T 0 cs)).σ.at c.σ.length c.nx = some (.cells c.nx false T 0 cs) := Store.at_of (by simp [Cx.push]) rfl
      rw [this] at hb
      cases hb
      cases hv
    · exact ⟨0, cap, arr, T, fz, by rw [hι], hn, by rw [hι]; exact hh, fun _ => ⟨by simp, by simpa using hcap⟩⟩

theorem step_lit {t e : TypeId} {k n : Nat} {z cs : List AV} {ps : Array (Nat × Operand)} {l : List (Nat × Nat × XO)} (hs : Sim P c) (ht : RepT c N ρ a.tmps) (hu : P.underlying t = some (.slice e)) (hk : tsz P e = some k)
    (hz : tzero P e = some z) (hzl : z.length = k) (hk0 : 0 < k) (hn0 : 0 < n) (hnk : n * k ≤ 4096) (hl : compParts P (fun i => some (i * k, k)) ps.toList = some l)
    (hf : fillA ρ ((List.range (n * k)).map fun j => (z[j % z.length]?).getD .u) l = some cs) (h : K (.gr c.σ.length c.nx 0 n k) (c.σ ++ [some (.cells c.nx false e 0 cs)], c.nx + 1)) :
    Stepped1 P c (do pure (.value (← Instr.buildSlice t n (ps.map fun (i, x) => (i, a.eval x))))) K := by
  obtain ⟨zv, hz1, hz2⟩ := run_tzero hz c.w
  obtain ⟨r1, r2⟩ := litL_rep (c := c) hz2
  have hzs : zv.cells.size = k := by rw [← Array.length_toList, ← r1.length]; exact hzl
  have hr0 : RepL c ((List.range (n * k)).map fun j => (z[j % z.length]?).getD .u) ((Array.range (n * k)).map (zv.cells[· % zv.cells.size]!)).toList := by
    refine RepL.of_get (by simp) fun j x hj => ?_
    simp only [List.getElem?_map, Option.map_eq_some_iff] at hj
    obtain ⟨j', hj', rfl⟩ := hj
    have hjlt : j < n * k := by
      rcases Nat.lt_or_ge j (n * k) with h | h
      · exact h
      · rw [List.getElem?_eq_none (by simpa using h)] at hj'; cases hj'
    have : j' = j := by simpa [List.getElem?_range hjlt] using hj'.symm
    subst this
    have hm : j' % z.length < z.length := Nat.mod_lt _ (by omega)
    obtain ⟨y, hy1, hy2⟩ := r1.get (List.getElem?_eq_getElem hm)
    refine ⟨y, ?_, by rw [List.getElem?_eq_getElem hm]; exact hy2⟩
    have hmod : j' % zv.cells.size = j' % z.length := by rw [hzs, hzl]
    have hy1' : zv.cells[j' % z.length]? = some y := by simpa using hy1
    simp [hjlt, hmod, getElem!_def, hy1']
  have hr1 : ∀ y ∈ ((Array.range (n * k)).map (zv.cells[· % zv.cells.size]!)).toList, y.oneCell' = true := by
    intro y hy
    simp only [Array.toList_map, List.mem_map] at hy
    obtain ⟨j, hj, rfl⟩ := hy
    have hm : j % zv.cells.size < zv.cells.size := Nat.mod_lt _ (by omega)
    rw [getElem!_pos zv.cells _ hm]
    exact r2 _ (by simp)
  obtain ⟨arr, e1, e2, e3⟩ := fill_rep (c := c) hs ht _ hl hf hr0 hr1
  have hlen : cs.length = n * k := by
    have : ∀ (xs : List (Nat × Nat × XO)) (z0 c0 : List AV), fillA ρ z0 xs = some c0 → c0.length = z0.length := by
      intro xs
      induction xs with
      | nil => intro z0 c0 h; simp [fillA] at h; rw [h]
      | cons p ps ih =>
        intro z0 c0 h
        obtain ⟨o, s, x⟩ := p
        simp only [fillA, Option.bind_eq_some_iff] at h
        obtain ⟨cl, _, h⟩ := h
        split at h
        · rename_i hle
          rw [ih _ _ h]
          simp [replaceAt]; omega
        · cases h
    rw [this _ _ _ hf]; simp
  have hal : arr.size = n * k := by rw [← Array.length_toList, ← e2.length, hlen]
  have htk : arr.toList.take cs.length = arr.toList := by rw [e2.length, List.take_length]
  obtain ⟨c', f1, f2, f3, f4, f5⟩ := new_row (P := P) (T := e) (arr := arr) (fz := (0, 0)) (k := k) (n := n) (cap := n) hs (cs := cs) (by rw [htk]; exact e2) (by rw [htk]; exact e3) (by rw [hlen, hal]; exact Nat.le_refl _) (fzOk_zero _ _) (Nat.le_refl _) (by rw [hal]; exact Nat.le_refl _)
  refine ⟨c', _, _, ?_, .inl ⟨_, rfl, f5⟩, f3, f4, by rw [f2]; exact h⟩
  have hnk0 : n * k ≠ 0 := Nat.ne_of_gt (Nat.mul_pos hn0 hk0)
  have e1' : Instr.fill (fun i => some (i * k, k)) ((Array.range (n * k)).map (zv.cells[· % zv.cells.size]!)) (ps.map fun x => (x.1, a.eval x.2)).toList = some arr := by
    rw [Array.toList_map]; exact e1
  simp only [Instr.buildSlice, Sem.run_bind, run_und hu, Result.andThen_ok, run_tsz hk, show ¬ n * k > 2 ^ 24 from by omega, if_false, hnk0, hz1, Sem.run_pure, e1']
  simp [newRow, f1]

theorem wrap_small {n : Int} (h0 : 0 ≤ n) (h1 : n ≤ 1048576) : IntKind.i64.wrap n = n := by rw [IntKind.wrap_i64]; omega

theorem step_mksl {t e : TypeId} {i : TypeInfo} {z : List AV} {l m : Int} (hs : Sim P c) (hu : P.underlying t = some (.slice e)) (hi : P.info? e = some i) (hb : i.bytes ≤ 4096) (hz : tzero P e = some z)
    (hzl : z.length = i.size) (hk0 : 0 < i.size) (h0 : 0 ≤ l) (h1 : l ≤ m) (h2 : m ≤ 1048576)
    (h : K (.gr c.σ.length c.nx 0 l.toNat i.size) (c.σ ++ [some (.cells c.nx false e 0 ((List.range (m.toNat * i.size)).map fun j => (z[j % z.length]?).getD .u))], c.nx + 1)) :
    Stepped1 P c (do pure (.value (← Instr.makeSlice t (.int .i64 l) (.int .i64 m)))) K := by
  obtain ⟨zv, hz1, hz2⟩ := run_tzero hz c.w
  obtain ⟨r1, r2⟩ := litL_rep (c := c) hz2
  obtain ⟨q1, q2⟩ := zero_row (c := c) (n := m.toNat) r1 r2 hzl hk0
  have hlen : ((List.range (m.toNat * i.size)).map fun j => (z[j % z.length]?).getD .u).length = m.toNat * i.size := by simp
  have htake : ((Array.range (m.toNat * i.size)).map (zv.cells[· % zv.cells.size]!)).toList.take (m.toNat * i.size) = ((Array.range (m.toNat * i.size)).map (zv.cells[· % zv.cells.size]!)).toList := by
    rw [List.take_of_length_le]; simp
  obtain ⟨c', e1, e2, e3, e4, e5⟩ := new_row (P := P) (T := e) (arr := (Array.range (m.toNat * i.size)).map (zv.cells[· % zv.cells.size]!)) (fz := (0, 0)) (k := i.size) (n := l.toNat) (cap := m.toNat) hs
    (cs := (List.range (m.toNat * i.size)).map fun j => (z[j % z.length]?).getD .u) (by rw [hlen, htake]; exact q1) (by rw [hlen, htake]; exact q2) (by simp) (fzOk_zero _ _) (by omega) (by simp)
  refine ⟨c', _, _, ?_, .inl ⟨_, rfl, e5⟩, e3, e4, by rw [e2]; exact h⟩
  have hbytes : (i.bytes : Int) * m ≤ 4096 * 1048576 := by
    have a1 : (i.bytes : Int) * m ≤ 4096 * m := Int.mul_le_mul_of_nonneg_right (by omega) (by omega)
    omega
  have hno : ¬ (m < 0 ∨ (2 : Int) ^ 48 < (i.bytes : Int) * m) := by
    intro h
    rcases h with h | h
    · omega
    · have : (2 : Int) ^ 48 = 281474976710656 := by decide
      omega
  have hzn : (if m.toNat * i.size = 0 then pure #[] else do pure (← zeroValue e).cells : Sem (Array Value)).run P c.w = .ok (if m.toNat * i.size = 0 then #[] else zv.cells) c.w := by
    split <;> simp [hz1]
  have hfun : ((Array.range (m.toNat * i.size)).map fun x => (if m.toNat * i.size = 0 then #[] else zv.cells)[x % (if m.toNat * i.size = 0 then #[] else zv.cells).size]!) = (Array.range (m.toNat * i.size)).map (zv.cells[· % zv.cells.size]!) := by
    by_cases hmz : m.toNat * i.size = 0
    · simp [hmz]
    · simp only [hmz, if_false]
  have hwl := wrap_small h0 (by omega : l ≤ 1048576)
  have hwm := wrap_small (by omega : 0 ≤ m) h2
  simp only [Instr.makeSlice, Sem.run_bind, run_und hu, Result.andThen_ok, asInt, asIntOf, Sem.run_pure, run_tinfo hi, hwl, hwm, Sem.run_ite]
  rw [if_neg (by simp only [Bool.or_eq_true, decide_eq_true_eq, gt_iff_lt]; intro hh; rcases hh with (hh | hh) | hh <;> first | exact hno hh | omega)]
  simp only [Sem.run_bind, run_askRoom, Result.andThen_ok, run_tsz (show tsz P e = some i.size by simp [tsz, hi])]
  have hzn' := hzn
  by_cases hmz : m.toNat * i.size = 0
  · simp only [hmz, if_true] at hfun
    simp only [hmz, if_true, Sem.run_pure, Result.andThen_ok, newRow, Sem.run_bind, run_newObj]
    rw [hmz, show Array.range 0 = #[] from rfl] at e1
    rw [e1, show Array.range 0 = #[] from rfl]
    simp only [Array.map_empty]
    rfl
  · simp only [hmz, if_false, Sem.run_bind, hz1, Sem.run_pure, Result.andThen_ok, newRow, run_newObj, e1]
    rfl

theorem push_modify {α : Type} (h : Array α) (o : α) (f : α → α) : (h.push o).modify h.size f = h.push (f o) := by
  apply Array.ext_getElem?
  intro j
  rw [Array.getElem?_modify, Array.getElem?_push, Array.getElem?_push]
  by_cases hj : j = h.size
  · subst hj; simp
  · simp [hj, show ¬ h.size = j from fun e => hj e.symm]

theorem freeze_alloc (w : World) (arr : Array Value) (e : TypeId) (n : Nat) :
    (w.alloc (.cells arr e)).freeze ⟨w.heap.size, n, none⟩ 1 = w.alloc (.cells arr e (n, n + 1)) := by
  simp only [World.freeze, World.alloc, Nat.one_ne_zero, if_false]
  rw [push_modify]
  simp

theorem step_s2b {e : TypeId} {l : List Nat} (hs : Sim P c) (hl : ∀ x ∈ l, x < 256) (h : K (.gr c.σ.length c.nx 0 l.length 1) (c.σ ++ [some (.cells c.nx false e 0 (l.map fun (b : Nat) => .i .u8 b))], c.nx + 1)) :
    Stepped1 P c (do pure (.value (← Conv.stringToBytes e (bs l)))) K := by
  let q := Question.appendCap l.length 0 e
  let cap := q.cut (c.w.tape c.w.drawn q)
  have hcap : l.length ≤ cap := by simp only [cap, q, Question.cut]; omega
  have hch : (choose q).run P c.w = .ok cap c.w.drew := by rw [run_choose]; rfl
  let arr : Array Value := (bs l).data.map (fun b => Value.int .u8 b.toNat) ++ Array.replicate (cap - l.length) (.int .u8 0)
  have hsz : arr.size = cap := by simp [arr, bs]; omega
  have htake : arr.toList.take l.length = l.map fun (b : Nat) => Value.int .u8 b := by
    simp only [arr, Array.toList_append, Array.toList_map]
    rw [List.take_append_of_le_length (by simp [bs])]
    rw [List.take_of_length_le (by simp [bs])]
    simp only [bs, List.map_map]
    apply List.map_congr_left
    intro b hb
    have := hl b hb
    simp [Nat.mod_eq_of_lt this]
  have hr : RepL c.drew (l.map fun (b : Nat) => AV.i .u8 b) (l.map fun (b : Nat) => Value.int .u8 b) := by
    refine RepL.of_get (by simp) fun j x hj => ?_
    simp only [List.getElem?_map, Option.map_eq_some_iff] at hj ⊢
    obtain ⟨b, hb, rfl⟩ := hj
    exact ⟨_, ⟨b, hb, rfl⟩, by simp [RepV]⟩
  obtain ⟨c', e1, e2, e3, e4, e5⟩ := new_row (P := P) (c := c.drew) (T := e) (arr := arr) (fz := (arr.size, arr.size + 1)) (k := 1) (n := l.length) (cap := cap) hs.drew
    (cs := l.map fun (b : Nat) => .i .u8 b) (by rw [List.length_map, htake]; exact hr) (by rw [List.length_map, htake]; intro y hy; simp only [List.mem_map] at hy; obtain ⟨b, _, rfl⟩ := hy; rfl)
    (by rw [List.length_map, hsz]; exact hcap) (by intro j _ hj; simp only; omega) hcap (by rw [hsz]; simp)
  refine ⟨c', _, _, ?_, .inl ⟨_, rfl, e5⟩, e3, (Ext.drew c).trans e4, by rw [e2]; exact h⟩
  have hsize : (bs l).size = l.length := bs_size l
  simp only [Conv.stringToBytes, Sem.run_bind, hsize]
  rw [show Question.appendCap l.length 0 e = q from rfl, hch]
  simp only [Result.andThen_ok, newRow, Sem.run_bind, run_newObj, Sem.run_pure]
  have hcut : (Array.map (fun b => Value.int IntKind.u8 ↑b.toNat) (bs l).data ++ Array.replicate (cap - l.length) (Value.int IntKind.u8 0)) = arr := rfl
  have hsh : (c.w.drew.alloc (.cells arr e)).shape? c.w.drew.heap.size = some (e, arr.size) := by
    simp only [World.shape?, heap_alloc_new]
  have hw : (c.w.drew.alloc (.cells arr e)).freeze ⟨c.w.drew.heap.size, arr.size, none⟩ 1 = c'.w := by
    rw [e1]
    exact freeze_alloc _ _ _ _
  rw [hcut]
  have hwe : ({ heap := c.w.drew.heap.push (.cells arr e), tape := c.w.drew.tape, drawn := c.w.drew.drawn, os := c.w.drew.os, output := c.w.drew.output } : World) = c.w.drew.alloc (.cells arr e) := rfl
  simp only [hwe, markStringish, Sem.run_bind, run_shape, Result.andThen_ok, hsh, run_freeze, hw, Sem.run_pure]
  rfl

theorem step_rng {t : TypeId} {l : List Nat} (hs : Sim P c) (hl : ∀ x ∈ l, x < 256) (hu : P.underlying t = some .string) (h : K (.it c.σ.length c.nx) (c.σ ++ [some (.iter c.nx l 0)], c.nx + 1)) :
    Stepped1 P c (do pure (.value (← Instr.range t (.string (bs l))))) K := by
  have hst : (Blk.iter c.nx l 0).st = c.nx := rfl
  have he := Ext.push hs (.stringIter (bs l) 0) _ hst
  refine ⟨c.push (.stringIter (bs l) 0) (.iter c.nx l 0), .value (.pointer (some ⟨c.w.heap.size, 0, none⟩)), _, ?_, .inl ⟨_, rfl, ?_⟩, ?_, he, h⟩
  · simp only [Instr.range, Sem.run_bind, run_und hu, Result.andThen_ok, Sem.run_pure, run_newObj_alloc]
    rfl
  · simp only [RepV]
    refine ⟨⟨_, rfl⟩, by simp [Cx.push], fun blk hb hv => ?_⟩
    simp [Cx.push]
  · refine Sim.push hs _ _ hst fun he => ?_
    simp only [BlkRep, Cx.push, upd_same]
    exact ⟨heap_alloc_new c.w _, hl⟩

theorem step_next {l : List Nat} {r st st' pos : Nat} {u : Value} {ty : TypeId} (hs : Sim P c) (hx : RepV c (.it r st) u) (hat : c.σ.at r st = some (.iter st' l pos))
    (h : if pos < l.length then
          K (.tup [.b true, .i .i64 pos, .i .i32 (Utf8.decode (bs l) pos).1]) (c.σ.set r (some (.iter st' l (pos + (Utf8.decode (bs l) pos).2))), c.nx) else K (.tup [.b false]) c.st) :
    Stepped1 P c (do pure (.value (← Instr.next u true ty))) K := by
  simp only [RepV] at hx
  have hu := hx.2.2 _ hat rfl
  subst hu
  obtain ⟨g1, g2⟩ := Store.at_some hat
  obtain ⟨b1, b2⟩ := hs.blk r _ g1
  simp only [BlkRep] at b1
  obtain ⟨b1, hl⟩ := b1
  have hget : (getObj (c.ι r)).run P c.w = .ok (.stringIter (bs l) pos) c.w := by simp [getObj, Sem.run, b1]
  have hsz : (bs l).size = l.length := bs_size l
  by_cases hp : pos < l.length
  · rw [if_pos hp] at h
    have hset : (setObj (c.ι r) (.stringIter (bs l) (pos + (Utf8.decode (bs l) pos).2))).run P c.w = .ok () (c.w.putObj (c.ι r) (.stringIter (bs l) (pos + (Utf8.decode (bs l) pos).2))) := by
      simp [setObj, Sem.run, b1, World.putObj]
    have hw : Wrote c (c.ι r) (c.w.putObj (c.ι r) (.stringIter (bs l) (pos + (Utf8.decode (bs l) pos).2))) :=
      ⟨fun y hy => World.putObj_heap_other hy, World.putObj_size, fun arr T fz he => (by rw [b1] at he; cases he), rfl, rfl, rfl⟩
    have hst : (Blk.iter st' l (pos + (Utf8.decode (bs l) pos).2)).st < c.nx → (Blk.iter st' l (pos + (Utf8.decode (bs l) pos).2)).st = (Blk.iter st' l pos).st := fun _ => rfl
    refine ⟨c.put _ r (.iter st' l (pos + (Utf8.decode (bs l) pos).2)), .value (.tuple #[.bool true, goInt pos, .int .i32 (Utf8.decode (bs l) pos).1]), .tup [.b true, .i .i64 pos, .i .i32 (Utf8.decode (bs l) pos).1], ?_, .inl ⟨_, rfl, ?_⟩, Sim.put hs g1 rfl rfl hw hst fun he => ?_, Ext.put hs g1 rfl rfl hw hst, ?_⟩
    · simp only [Instr.next, Sem.run_bind, hget, Result.andThen_ok, hsz, hp, if_true, hset, Sem.run_pure]
      rfl
    · simp [RepV, RepL, goInt]
    · simp only [BlkRep]
      exact ⟨World.putObj_heap_same (Array.getElem?_eq_some_iff.1 b1).1, hl⟩
    · have : (c.put (c.w.putObj (c.ι r) (.stringIter (bs l) (pos + (Utf8.decode (bs l) pos).2))) r (.iter st' l (pos + (Utf8.decode (bs l) pos).2))).st = (c.σ.set r (some (.iter st' l (pos + (Utf8.decode (bs l) pos).2))), c.nx) := by
        have b3 : st' + 1 ≤ c.nx := b2
        simp only [Cx.st, Cx.put, Blk.st, Nat.max_eq_left b3]
      rw [this]
      exact h
  · rw [if_neg hp] at h
    refine ⟨c, .value (.tuple #[.bool false]), .tup [.b false], ?_, .inl ⟨_, rfl, ?_⟩, hs, Ext.refl c, h⟩
    · simp only [Instr.next, Sem.run_bind, hget, Result.andThen_ok, hsz, hp, if_false, Sem.run_pure]
    · simp [RepV, RepL]

end
end Hb
end

section
set_option linter.unusedVariables false
set_option linter.unusedSimpArgs false
set_option linter.constructorNameAsVariable false
set_option autoImplicit false
set_option linter.unusedSimpArgs false
set_option linter.unusedVariables false
namespace Hb
open Go

section
variable {P : Prg} {c : Cx} {N : Nat} {ρ : Env} {a : Act} {K : AV → St → Prop}

/-- What holds behind an operation with target d. -/
def OpPost (P : Prg) (c : Cx) (N : Nat) (ρ : Env) (a : Act) (d : Option Nat) (K : AV → St → Prop) (a' : Act) (w' : World) : Prop :=
  ∃ (c' : Cx) (v : AV), c'.w = w' ∧ Sim P c' ∧ Ext c c' ∧ RepA c' N (ρ.put d v) a' ∧ K v c'.st ∧ ∃ u, a' = a.put d u

theorem run_callFunc_body {f : FuncId} (h : hasBody P f = true) (args : Array Value) (w : World) : (callFunc f args).run P w = .ok (.enter f args) w := by
  unfold hasBody at h
  cases hf : P.funcs[f]? with
  | none => rw [hf] at h; cases h
  | some fn =>
    rw [hf] at h
    simp only [Bool.and_eq_true, bne_iff_ne, ne_eq] at h
    obtain ⟨c, hb⟩ := Option.isSome_iff_exists.1 h.2
    simp [callFunc, hf, h.1, hb]

theorem compOp_defer {o : Oper} {x : XOp} (hc : compOp P o = some x) : ∀ d, o.op ≠ .defer d := by
  intro d hd
  simp [compOp, hd] at hc

theorem put_value {o : Oper} {l : Option Nat} {Q : Exit → Act → World → Prop} (hs : Sim P c) (ha : RepA c N ρ a) (hd : ∀ t, o.dst = some t → t < N) (hsem : o.semAt (Fw l).round a.eval = execOp a.eval o)
    (h : Stepped1 P c (execOp a.eval o) K) : o.wpIn (Fw l) 0 P a c.w (OpPost P c N ρ a o.dst K) Q := by
  obtain ⟨c', nx, v, hrun, hval, h3, h4, h5⟩ := h
  refine ⟨fun f _ => Fw_fn l f, ?_⟩
  rw [hsem, hrun]
  rcases hval with ⟨u, rfl, hu⟩ | ⟨rfl, rfl⟩
  · exact ⟨c', v, rfl, h3, h4, (ha.mono h4).put hu hd, h5, _, rfl⟩
  · refine ⟨c', .tup [], rfl, h3, h4, (ha.mono h4).put ?_ hd, h5, _, rfl⟩
    simp [RepV, RepL, undef]

theorem compOs_two {l : List Operand} {x y : XO} (h : compOs P l = some [x, y]) : ∃ p q, l = [p, q] ∧ compO P p = some x ∧ compO P q = some y := by
  cases l with
  | nil => simp [compOs] at h
  | cons p l =>
    simp only [compOs, Option.bind_eq_some_iff, Option.map_eq_some_iff] at h
    obtain ⟨a, ha, as, has, he⟩ := h
    cases he
    cases l with
    | nil => simp [compOs] at has
    | cons q l =>
      simp only [compOs, Option.bind_eq_some_iff, Option.map_eq_some_iff] at has
      obtain ⟨b, hb, bs, hbs, he⟩ := has
      cases he
      cases l with
      | nil => exact ⟨p, q, rfl, ha, hb⟩
      | cons r l =>
        simp only [compOs, Option.bind_eq_some_iff, Option.map_eq_some_iff] at hbs
        obtain ⟨_, _, _, _, he⟩ := hbs
        cases he

/-- An operation that is neither a call nor one of those that change the store. -/
theorem pure_value {o : Oper} {x : XOp} {v : AV} (hs : Sim P c) (ha : RepA c N ρ a) (hc : compOp P o = some x) (hx : xpure c.σ ρ.f x = some v) (hk : K v c.st) : Stepped1 P c (execOp a.eval o) K := by
  obtain ⟨u, h1, h2⟩ := xpure_sound hs ha.t hc hx
  exact ⟨c, _, v, h1, .inl ⟨u, rfl, h2⟩, hs, Ext.refl c, hk⟩

theorem pure_value' {o : Oper} {x : XOp} (hs : Sim P c) (ha : RepA c N ρ a) (hc : compOp P o = some x) (hx : match xpure c.σ ρ.f x with | some v => K v c.st | none => False) : Stepped1 P c (execOp a.eval o) K := by
  cases h : xpure c.σ ρ.f x with
  | none => rw [h] at hx; exact hx.elim
  | some v => rw [h] at hx; exact pure_value hs ha hc h hx

/-- What the call of a function of the program's comes to. -/
theorem call_sound {o : Oper} {l : Option Nat} {Q : Exit → Act → World → Prop} {g : FuncId} {args : List Value} {as : List AV} (hs : Sim P c) (ha : RepA c N ρ a) (hd : ∀ t, o.dst = some t → t < N) (hsem : o.semAt (Fw l).round a.eval = execOp a.eval o)
    (hrun : (execOp a.eval o).run P c.w = (callFunc g args.toArray).run P c.w) (hr : RepL c as args) (h : ACall P g as c.st K) : o.wpIn (Fw l) 0 P a c.w (OpPost P c N ρ a o.dst K) Q := by
  refine ⟨fun f _ => Fw_fn l f, ?_⟩
  rw [hsem, hrun, run_callFunc_body h.1]
  refine ⟨fun h => (by rw [Fw_depth] at h; cases h), ?_⟩
  have hcall := h.2 c args rfl hs hr
  have hcall' : CallsIn (Fw l) 0 P g args.toArray c.w fun e w' => ∃ (c' : Cx) (v : Value) (av : AV), e = .returned v ∧ c'.w = w' ∧ Sim P c' ∧ Ext c c' ∧ RepV c' av v ∧ K av c'.st := by
    cases l with
    | none => exact hcall
    | some l => exact hcall
  refine hcall'.mono ?_
  rintro e w' ⟨c', v, av, rfl, rfl, h3, h4, h5, h6⟩
  exact ⟨c', av, rfl, h3, h4, (ha.mono h4).put h5 hd, h6, _, rfl⟩

theorem Wrote.putObj {o : Obj} {b : Nat} {x : Obj} (h : c.w.heap[b]? = some x) (hx : ∀ arr T fz, x ≠ .cells arr T fz) : Wrote c b (c.w.putObj b o) :=
  ⟨fun y hy => World.putObj_heap_other hy, World.putObj_size, fun arr T fz he => by rw [h] at he; cases he; exact absurd rfl (hx arr T fz), rfl, rfl, rfl⟩

theorem putAll_rep {c : Cx} {N : Nat} : ∀ {ps : List Nat} {as : List AV} {vs : List Value} {ρ : Nat → AV} {tmps : Array Value}, RepT c N ρ tmps → RepL c as vs → (∀ p ∈ ps, p < N) →
    RepT c N (putAll ρ ps as) ((ps.zip vs).foldl (fun tmps (x : Nat × Value) => tmps.setIfInBounds x.1 x.2) tmps)
  | [], as, vs, ρ, tmps, ht, hr, hp => by simpa [putAll] using ht
  | p :: ps, [], vs, ρ, tmps, ht, hr, hp => by
    simp only [RepL] at hr
    subst hr
    simpa [putAll] using ht
  | p :: ps, x :: as, vs, ρ, tmps, ht, hr, hp => by
    simp only [RepL] at hr
    obtain ⟨v, vs', rfl, h1, h2⟩ := hr
    simp only [putAll, List.zip_cons_cons, List.foldl_cons]
    have := (RepA.put (c := c) (N := N) (ρ := ⟨ρ, []⟩) (a := ⟨tmps, []⟩) (d := some p) ⟨ht, by simp [RepDf]⟩ h1 (fun t h => by cases h; exact hp p (by simp))).t
    exact putAll_rep (tmps := tmps.setIfInBounds p v) this h2 fun q hq => hp q (by simp [hq])

theorem put_st {c : Cx} {w' : World} {r st : Nat} {state : LoopState} {pe : Option XExit} {N' : Nat} {ρl : Nat → AV} {ps : List Nat} {xa xb : XC} {dr ds : Nat} (h : st < c.nx) :
    (c.put w' r (.loop st state pe N' ρl ps xa xb dr ds)).st = (c.σ.set r (some (.loop st state pe N' ρl ps xa xb dr ds)), c.nx) := by
  simp only [Cx.st, Cx.put, Blk.st, Nat.max_eq_left (Nat.succ_le_of_lt h)]

/-- A loop's record, as it is and as it is made. -/
theorem loop_put {r st st0 : Nat} {state : LoopState} {pe : Option XExit} {N' : Nat} {ρl : Nat → AV} {ps : List Nat} {xa xb : XC} {dr ds : Nat} (hs : Sim P c) (hat : c.σ.at r st = some (.loop st0 state pe N' ρl ps xa xb dr ds)) :
    ∃ lr : Loop, c.w.heap[c.ι r]? = some (.loop lr) ∧ lr.state = state ∧ lr.pending = pe.bind XExit.code ∧ st < c.nx ∧ ∀ (state' : LoopState) (pe' : Option XExit),
      Sim P (c.put (c.w.putObj (c.ι r) (.loop { lr with state := state', pending := pe'.bind XExit.code })) r (.loop st state' pe' N' ρl ps xa xb dr ds)) ∧
      Ext c (c.put (c.w.putObj (c.ι r) (.loop { lr with state := state', pending := pe'.bind XExit.code })) r (.loop st state' pe' N' ρl ps xa xb dr ds)) := by
  obtain ⟨g1, g2⟩ := Store.at_some hat
  obtain ⟨b1, b2⟩ := hs.blk r _ g1
  simp only [BlkRep] at b1
  obtain ⟨lr, e1, e2, e3, e5, e6, e7, e8, e9, e10, e11⟩ := b1
  refine ⟨lr, e1, e2, e3, by rw [← g2]; exact b2, fun state' pe' => ?_⟩
  have hw : Wrote c (c.ι r) (c.w.putObj (c.ι r) (.loop { lr with state := state', pending := pe'.bind XExit.code })) := Wrote.putObj e1 (fun _ _ _ h => by cases h)
  have hst : (Blk.loop st state' pe' N' ρl ps xa xb dr ds).st < c.nx → (Blk.loop st state' pe' N' ρl ps xa xb dr ds).st = (Blk.loop st0 state pe N' ρl ps xa xb dr ds).st := fun _ => g2.symm
  have he := Ext.put hs g1 rfl rfl hw hst
  refine ⟨Sim.put hs g1 rfl rfl hw hst fun he => ?_, he⟩
  simp only [BlkRep]
  refine ⟨{ lr with state := state', pending := pe'.bind XExit.code }, ?_, rfl, rfl, e5.mono he, e6, e7, e8, e9, Nat.lt_of_lt_of_le e10 he.nx, fun b hb hv => ?_⟩
  · exact World.putObj_heap_same (Array.getElem?_eq_some_iff.1 e1).1
  · obtain ⟨blk, q1, q2, q3⟩ := he.at e10 hb
    rw [q3 (q2.trans hv)]
    exact e11 blk q1 (q2.trans hv)

/-- A call of yield. -/
theorem round_sound {l : Option Nat} {Q : Exit → Act → World → Prop} {f : Operand} {fo : XO} {args : Array Operand} {as : List XO} {ats : Array TypeId} {r st : Nat} (hs : Sim P c) (ha : RepA c N ρ a) {dst : Option Nat} {ty : TypeId} {pos : String} {after : Array Edge} {guard : Option (Nat × Bool)}
    (hd : ∀ t, dst = some t → t < N) (hsem : (⟨dst, .call ⟨.value f, args, ats⟩, ty, pos, after, guard⟩ : Oper).semAt (Fw l).round a.eval = execOp a.eval ⟨dst, .call ⟨.value f, args, ats⟩, ty, pos, after, guard⟩)
    (hfo : compO P f = some fo) (has : compOs P args.toList = some as) (r1 : RepV c (.fy r st) (a.eval f)) (h : ARound P r st (as.map (XO.ev ρ.f)) c.st K) :
    (⟨dst, .call ⟨.value f, args, ats⟩, ty, pos, after, guard⟩ : Oper).wpIn (Fw l) 0 P a c.w (OpPost P c N ρ a dst K) Q := by
  have r2 := compOs_rep hs ha.t has
  unfold ARound at h
  split at h
  · rename_i st' pe N' ρl ps xa xb dr ds hat
    obtain ⟨hlen, h⟩ := h
    obtain ⟨g1, g2⟩ := Store.at_some hat
    obtain ⟨b1, b2⟩ := hs.blk r _ g1
    simp only [BlkRep] at b1
    obtain ⟨lr, e1, e2, e3, e5, e6, ⟨h7, e7, o7⟩, ⟨h8, e8, o8⟩, e9, e10, e11⟩ := b1
    simp only [RepV] at r1
    obtain ⟨⟨l0, hv0⟩, hst, hr1⟩ := r1
    have hv := hr1 _ hat rfl
    have hargs : args.size = lr.params.size := by
      have := r2.length
      rw [hlen, ← e6] at this
      simpa using this.symm
    have hrun : (execOp a.eval ⟨dst, .call ⟨.value f, args, ats⟩, ty, pos, after, guard⟩).run P c.w =
        .ok (.round (c.ι r) lr.fn ((lr.params.zip (args.map a.eval)).foldl (fun tmps (x : Nat × Value) => tmps.setIfInBounds x.1 x.2) lr.tmps) lr.assign lr.body) c.w := by
      simp only [execOp, resolve, hv, Deferred.ofValue, Sem.run_bind, Sem.run_pure, Result.andThen_ok, invoke]
      have := run_yield (P := P) (l := c.ι r) (args := #[] ++ args.map a.eval) e1 (by simpa using hargs)
      rw [this]
      simp
    refine ⟨fun f _ => Fw_fn l f, ?_⟩
    rw [hsem, hrun]
    refine ⟨fun h => (by rw [Fw_depth] at h; cases h), ?_⟩
    have hF : (Fw l).inRound (c.ι r) = Fw (some (c.ι r)) := by cases l <;> rfl
    refine roundIn_of_wpIn (Fw_fn l _) ?_
    rw [hF]
    have hrd : RdRep c (some (r, st)) (some (c.ι r)) := ⟨hst, fun blk hb hv => rfl⟩
    have hrepA : RepA c N' ⟨putAll ρl ps (as.map (XO.ev ρ.f)), []⟩ { tmps := (lr.params.zip (args.map a.eval)).foldl (fun tmps (x : Nat × Value) => tmps.setIfInBounds x.1 x.2) lr.tmps, defers := [] } := by
      refine ⟨?_, by simp [RepDf]⟩
      have := putAll_rep (tmps := lr.tmps) e5 r2 (ps := ps) e9
      simp only
      rw [← Array.foldl_toList, Array.toList_zip, e6, Array.toList_map]
      exact this
    refine wpIn_mono (h o7 o8 o7.un h7 lr.assign e7 c _ (some (c.ι r)) rfl hs hrepA hrd) ?_
    rintro e a1 w1 ⟨c1, ρ1, e', rfl, k2, k3, k4, rfl, k6⟩
    unfold RoundMid at k6
    split at k6
    · rename_i st1 pe1 N1 ρl1 ps1 xa1 xb1 dr1 ds1 hat1
      obtain ⟨_, _, _, hι1⟩ := k3.at hst hat1
      have hι1 : c1.ι r = c.ι r := by
        obtain ⟨blk, q1, q2, q3⟩ := k3.at hst hat1
        exact q3 q2
      obtain ⟨lr1, f1, f2, f3, fst, f4⟩ := loop_put k2 hat1
      obtain ⟨s2, x2⟩ := f4 .busy pe1
      rw [hι1] at f1 s2 x2
      have hpend : ({ lr1 with state := .busy, pending := pe1.bind XExit.code } : Loop) = { lr1 with state := .busy } := by
        rw [← f3]
      rw [hpend] at s2 x2
      refine ⟨_, run_beginRound f1 f2, ?_⟩
      have x02 := k3.trans x2
      refine wpIn_mono (k6 o8.un h8 lr.body e8 _ a1 (some (c.ι r)) (put_st fst) s2 (k4.mono x2) (hrd.mono x02)) ?_
      rintro e a2 w2 ⟨c3, ρ3, e3', rfl, m2, m3, m4, rfl, m6⟩
      unfold RoundEnd at m6
      split at m6
      · rename_i st3 stt3 pe3 N3 ρl3 ps3 xa3 xb3 dr3 ds3 hat3
        have x03 := x02.trans m3
        have hι3 : c3.ι r = c.ι r := by
          obtain ⟨blk, q1, q2, q3⟩ := x03.at hst hat3
          exact q3 q2
        obtain ⟨lr3, p1, p2, p3, pst, p4⟩ := loop_put m2 hat3
        rw [hι3] at p1 p4
        have fin : ∀ (b : Bool) (jump : Option Code) (state' : LoopState) (pe' : Option XExit), pe'.bind XExit.code = jump → (state' = if jump.isNone then .ready else .done) → b = jump.isNone →
            K (.b b) (c3.σ.set r (some (.loop st state' pe' N3 ρl3 ps3 xa3 xb3 dr3 ds3)), c3.nx) →
            ∃ v w', (Instr.endRound (c.ι r) jump).run P c3.w = .ok v w' ∧ OpPost P c N ρ a dst K (a.put dst v) w' := by
          intro b jump state' pe' h1 h2 h3 h4
          subst h1 h3
          obtain ⟨s4, x4⟩ := p4 state' pe'
          refine ⟨_, _, run_endRound _ p1, ?_⟩
          rw [← h2]
          exact ⟨_, .b (pe'.bind XExit.code).isNone, rfl, s4, x03.trans x4, (ha.mono (x03.trans x4)).put (by simp only [RepV]) hd, (by rw [put_st pst]; exact h4), _, rfl⟩
        cases e3' with
        | normal => exact fin true none .ready none rfl rfl rfl m6
        | exit id => exact fin false (some (.exit id)) .done (some (.exit id)) rfl rfl rfl m6
        | ret => exact fin false (some .ret) .done (some .ret) rfl rfl rfl m6
      · exact m6.elim
    · exact k6.elim
  · exact h.elim

theorem op_sound {o : Oper} {x : XOp} {l : Option Nat} {Q : Exit → Act → World → Prop} (hs : Sim P c) (ha : RepA c N ρ a) (hd : ∀ t, o.dst = some t → t < N) (hc : compOp P o = some x) (h : XStep P x ρ.f c.st K) :
    o.wpIn (Fw l) 0 P a c.w (OpPost P c N ρ a o.dst K) Q := by
  have hsem : o.semAt (Fw l).round a.eval = execOp a.eval o := Oper.semAt_eq _ _ _ (compOp_defer hc)
  have hc0 := hc
  obtain ⟨dst, op, type, pos, after, guard⟩ := o
  have gen : (match xpure c.σ ρ.f x with | some v => K v c.st | none => False) → (⟨dst, op, type, pos, after, guard⟩ : Oper).wpIn (Fw l) 0 P a c.w (OpPost P c N ρ a dst K) Q :=
    fun hx => put_value hs ha hd hsem (pure_value' hs ha hc0 hx)
  cases op <;> simp only [compOp] at hc
  case alloc e =>
    simp only [Option.map_eq_some_iff] at hc
    obtain ⟨z, hz, rfl⟩ := hc
    exact put_value hs ha hd hsem (step_alloc hs hz h)
  case box e y =>
    simp only [Option.map_eq_some_iff] at hc
    obtain ⟨z, hz, rfl⟩ := hc
    simp only [XStep] at h
    cases hcs : (z.ev ρ.f).cells with
    | none => rw [hcs] at h; exact h.elim
    | some cs => rw [hcs] at h; exact put_value hs ha hd hsem (step_box hs (compO_rep hs ha.t hz) hcs h)
  case buildSlice t n ps =>
    split at hc
    · rename_i e hu
      simp only [Option.bind_eq_some_iff] at hc
      obtain ⟨k, hk, z, hz, hc⟩ := hc
      split at hc
      · rename_i hcond
        obtain ⟨q1, q2, q3, q4⟩ := hcond
        simp only [Option.map_eq_some_iff] at hc
        obtain ⟨l', hl, rfl⟩ := hc
        simp only [XStep] at h
        cases hf : fillA ρ.f ((List.range (n * k)).map fun j => (z[j % z.length]?).getD .u) l' with
        | none => rw [hf] at h; exact h.elim
        | some cs => rw [hf] at h; exact put_value hs ha hd hsem (step_lit hs ha.t hu hk hz q1 q2 q3 q4 hl hf h)
      · cases hc
    · cases hc
  case store t p y =>
    simp only [Option.bind_eq_some_iff, Option.map_eq_some_iff] at hc
    obtain ⟨n, hn, ao, hao, xo, hxo, rfl⟩ := hc
    simp only [XStep] at h
    cases hcs : (xo.ev ρ.f).cells with
    | none => rw [hcs] at h; exact h.elim
    | some cs =>
      rw [hcs] at h
      simp only at h
      cases hst : storeAt c.st.1 (ao.ev ρ.f) n cs with
      | none => rw [hst] at h; exact h.elim
      | some σ' => rw [hst] at h; exact put_value hs ha hd hsem (step_store hs hn (compO_rep hs ha.t hao) (compO_rep hs ha.t hxo) hcs hst h)
  case makeSlice t le ca =>
    split at hc
    · rename_i e hu
      split at hc
      · rename_i i z hi hz
        split at hc
        · rename_i hcond
          obtain ⟨q1, q2, q3⟩ := hcond
          simp only [Option.bind_eq_some_iff, Option.map_eq_some_iff] at hc
          obtain ⟨lo, hlo, co, hco, rfl⟩ := hc
          have r1 := compO_rep hs ha.t hlo
          have r2 := compO_rep hs ha.t hco
          simp only [XStep] at h
          split at h
          · rename_i l0 c0 e1 e2
            obtain ⟨h1, h2, h3, h4⟩ := h
            rw [e1] at r1
            rw [e2] at r2
            simp only [RepV] at r1 r2
            refine put_value hs ha hd hsem ?_
            simp only [execOp, r1, r2]
            exact step_mksl hs hu hi q1 hz q2 q3 h1 h2 h3 h4
          · exact h.elim
        · cases hc
      · cases hc
    · cases hc
  case convert s d y =>
    simp only [Option.bind_eq_some_iff] at hc
    obtain ⟨xo, hxo, hc⟩ := hc
    have hr := compO_rep hs ha.t hxo
    by_cases hb : ∃ T, x = .conv (.s2b T) xo
    · obtain ⟨T, rfl⟩ := hb
      simp only [XStep] at h
      split at h
      · rename_i bl e1
        rw [e1] at hr
        simp only [RepV] at hr
        refine put_value hs ha hd hsem ?_
        have hT : P.underlying s = some .string ∧ P.underlying d = some (.slice T) ∧ P.underlying T = some (.int .u8) := by
          unfold compConv at hc
          split at hc <;> try cases hc
          · split at hc
            · rename_i a1 a2 a3
              cases hc
              exact ⟨by assumption, by assumption, by assumption⟩
            · cases hc
          · split at hc <;> cases hc
        obtain ⟨t1, t2, t3⟩ := hT
        have hst := step_s2b (P := P) (e := T) (l := bl) hs hr.2 h
        obtain ⟨c', nx, v, e1, e2⟩ := hst
        refine ⟨c', nx, v, ?_, e2⟩
        rw [← e1]
        simp only [execOp, hr, convert, Sem.run_bind, run_und t1, run_und t2, run_und t3, Result.andThen_ok]
      · exact h.elim
    · apply gen
      unfold compConv at hc
      split at hc <;> try cases hc
      · exact h
      · exact h
      · split at hc
        · cases hc; exact absurd ⟨_, rfl⟩ hb
        · cases hc
      · split at hc
        · cases hc; exact h
        · cases hc
  case call cl =>
    obtain ⟨callee, args, argTypes⟩ := cl
    simp only [compCall] at hc
    cases callee with
    | value f =>
      simp only [Option.bind_eq_some_iff, Option.map_eq_some_iff] at hc
      obtain ⟨fo, hfo, as, has, rfl⟩ := hc
      have r1 := compO_rep hs ha.t hfo
      have r2 := compOs_rep hs ha.t has
      simp only [XStep] at h
      split at h
      · rename_i g first cap e1
        rw [e1] at r1
        simp only [RepV] at r1
        obtain ⟨f', c', hv, hf1, hc1⟩ := r1
        have hrun : (execOp a.eval ⟨dst, .call ⟨.value f, args, argTypes⟩, type, pos, after, guard⟩).run P c.w = (callFunc g (f'.toList ++ args.toList.map a.eval ++ c'.toList).toArray).run P c.w := by
          simp only [execOp, resolve, hv, Deferred.ofValue, Sem.run_bind, Sem.run_pure, Result.andThen_ok, invoke]
          congr 2
          simp
        rcases h with h | h
        · exact call_sound (args := f'.toList ++ args.toList.map a.eval ++ c'.toList) hs ha hd hsem hrun ((hf1.append r2).append hc1) h
        · refine put_value hs ha hd hsem ?_
          obtain ⟨c1, u, av, a1, a2, a3, a4, a5⟩ := h c _ rfl hs ((hf1.append r2).append hc1)
          exact ⟨c1, _, av, by rw [hrun, a1], .inl ⟨u, rfl, a4⟩, a2, a3, a5⟩
      · rename_i r st e1
        rw [e1] at r1
        exact round_sound hs ha hd hsem hfo has r1 h
      · exact h.elim
    | builtin b =>
      cases b <;> simp only at hc
      case append =>
        split at hc
        · rename_i t u ht0 hu0
          split at hc
          · rename_i e e' hte hue
            split at hc
            · rename_i i z hi hz
              split at hc
              · rename_i hcond
                simp only [Option.map_eq_some_iff] at hc
                obtain ⟨as, has, rfl⟩ := hc
                by_cases h2 : ∃ x y, as = [x, y]
                · obtain ⟨xo, yo, rfl⟩ := h2
                  obtain ⟨p, q, hargs, hp, hq⟩ := compOs_two has
                  have hargs' : args = #[p, q] := by
                    apply Array.ext'
                    rw [hargs]
                  subst hargs'
                  simp only [XStep] at h
                  cases hcs : cellsOfSlice c.st.1 i.size (yo.ev ρ.f) with
                  | none => rw [hcs] at h; exact h.elim
                  | some mn =>
                    obtain ⟨m, new⟩ := mn
                    rw [hcs] at h
                    refine put_value hs ha hd hsem ?_
                    have := step_append (K := K) (ty := type) hs hte ⟨_, hue⟩ hi hcond.1 hz hcond.2 (compO_rep hs ha.t hp) (compO_rep hs ha.t hq) hcs h
                    obtain ⟨c', nx, v, e1, e2⟩ := this
                    refine ⟨c', nx, v, ?_, e2⟩
                    rw [← e1]
                    have hap : Builtin.append_ argTypes type #[a.eval p, a.eval q] = Builtin.append_ #[t, u] type #[a.eval p, a.eval q] := by
                      simp only [Builtin.append_, ht0, hu0]
                      rfl
                    simp [execOp, resolve, invoke, builtin, hap]
                · apply gen
                  match as, h, h2 with
                  | [], h, _ => exact h
                  | [_], h, _ => exact h
                  | [x, y], _, h2 => exact absurd ⟨x, y, rfl⟩ h2
                  | _ :: _ :: _ :: _, h, _ => exact h
              · cases hc
            · cases hc
          · cases hc
        · cases hc
      case len =>
        split at hc
        · split at hc
          · simp only [Option.map_eq_some_iff] at hc
            obtain ⟨as, has, rfl⟩ := hc
            exact gen h
          · simp only [Option.map_eq_some_iff] at hc
            obtain ⟨as, has, rfl⟩ := hc
            exact gen h
          · cases hc
        · cases hc
      case min =>
        simp only [Option.map_eq_some_iff] at hc
        obtain ⟨as, has, rfl⟩ := hc
        exact gen h
      case max =>
        simp only [Option.map_eq_some_iff] at hc
        obtain ⟨as, has, rfl⟩ := hc
        exact gen h
      all_goals cases hc
    | invoke r n => cases hc
  case next it b =>
    cases b with
    | false => cases hc
    | true =>
      simp only [Option.map_eq_some_iff] at hc
      obtain ⟨y, hy, rfl⟩ := hc
      have hr := compO_rep hs ha.t hy
      simp only [XStep] at h
      split at h
      · rename_i r st e1
        rw [e1] at hr
        split at h
        · rename_i st' l0 pos hat
          exact put_value hs ha hd hsem (step_next hs hr hat h)
        · exact h.elim
      · exact h.elim
  case range t y =>
    split at hc
    · rename_i hu
      simp only [Option.map_eq_some_iff] at hc
      obtain ⟨xo, hxo, rfl⟩ := hc
      have hr := compO_rep hs ha.t hxo
      simp only [XStep] at h
      split at h
      · rename_i l0 e1
        rw [e1] at hr
        simp only [RepV] at hr
        refine put_value hs ha hd hsem ?_
        have := step_rng (P := P) hs hr.2 hu h
        simp only [execOp, hr.1]
        exact this
      · exact h.elim
    · cases hc
  all_goals cases x <;> first
    | exact gen h
    | (exfalso; simp [Option.map_eq_some_iff, Option.bind_eq_some_iff] at hc; done)
    | (exfalso; (repeat' split at hc) <;> simp [Option.map_eq_some_iff, Option.bind_eq_some_iff] at hc; done)
    | (exfalso; unfold compBin at hc; simp only [Option.bind_eq_some_iff] at hc; obtain ⟨_, _, _, _, hc⟩ := hc; (repeat' split at hc) <;> simp at hc; done)
    | skip

end
end Hb
end

section
set_option linter.unusedVariables false
set_option linter.unusedSimpArgs false
set_option linter.constructorNameAsVariable false
set_option autoImplicit false
set_option linter.unusedSimpArgs false
set_option linter.unusedVariables false
namespace Hb
open Go

/-! ## Regions -/

section
variable (P : Prg)

/-- One operation of a region, guarded or not. -/
def XOne (o : XOper) (ρ : Env) (σ : St) (K : AV → St → Prop) : Prop :=
  match o.guard with
  | none => XStep P o.op ρ.f σ K
  | some (t, want) => match ρ.f t with
    | .b y => if y = want then XStep P o.op ρ.f σ K else K (.tup []) σ
    | .tup [] => K (.tup []) σ
    | _ => False

/-- The operations of a region, in the order in which they stand. -/
def XGo : List XOper → Env → St → (Env → St → Prop) → Prop
  | [], ρ, σ, Q => Q ρ σ
  | o :: l, ρ, σ, Q => XOne P o ρ σ fun v σ' => XGo l (ρ.put o.dst v) σ' Q

/-- It comes to the same again. -/
def Again (o : XOper) (ρ : Env) (σ : St) : Prop := XOne P o ρ σ fun v σ' => σ' = σ ∧ ∀ d, o.dst = some d → v = ρ.f d

def AgainL : List XOper → Env → St → Prop
  | [], _, _ => True
  | o :: l, ρ, σ => Again P o ρ σ ∧ AgainL l ρ σ

/-- A region that draws its order. -/
def XTree : DT → Env → St → (Env → St → Prop) → Prop
  | .done, ρ, σ, Q => Q ρ σ
  | .one o t, ρ, σ, Q => XOne P o ρ σ fun v σ' => XTree t (ρ.put o.dst v) σ' Q
  | .act o ag t alt, ρ, σ, Q => (XOne P o ρ σ fun v σ' => AgainL P ag (ρ.put o.dst v) σ' ∧ XTree t (ρ.put o.dst v) σ' Q) ∧ XTree alt ρ σ Q
  | .stop, _, _, _ => True
end

section
variable {P : Prg} {c : Cx} {N : Nat} {ρ : Env} {σ : St} {a : Act} {K : AV → St → Prop}

theorem AgainL_mem : ∀ {l : List XOper} {o : XOper}, AgainL P l ρ σ → o ∈ l → Again P o ρ σ
  | _ :: _, _, h, .head _ => h.1
  | _ :: _, _, h, .tail _ hm => AgainL_mem h.2 hm

theorem tmps_none (ht : RepT c N ρ.f a.tmps) {t : Nat} (h : ρ.f t = .tup []) : a.tmps[t]? = none ∨ a.tmps[t]? = some (.tuple #[]) := by
  have h1 := ht.2 t
  rw [h] at h1
  simp only [RepV, RepL] at h1
  obtain ⟨cs, h1, h2⟩ := h1
  rw [Array.getD_eq_getD_getElem?] at h1
  cases hc : a.tmps[t]? with
  | none => exact .inl rfl
  | some v =>
    right
    rw [hc] at h1
    simp only [Option.getD_some] at h1
    rw [h1]
    congr 2
    exact Array.toList_inj.1 (by simpa using h2)

theorem tmps_some (ht : RepT c N ρ.f a.tmps) {t : Nat} {y : Bool} (h : ρ.f t = .b y) : a.tmps[t]? = some (.bool y) := by
  have h1 := ht.2 t
  rw [h] at h1
  simp only [RepV] at h1
  rw [Array.getD_eq_getD_getElem?] at h1
  cases hc : a.tmps[t]? with
  | none => rw [hc] at h1; simp [undef] at h1
  | some v => rw [hc] at h1; simpa using h1

/-- One operation of a region. -/
theorem one_sound {ops : Array Oper} {o : Oper} {x : XOper} {i : Nat} {l : Option Nat} {Q : Exit → Act → World → Prop} {K' : Act → World → Prop} (hs : Sim P c) (ha : RepA c N ρ a) (hc : compOper P N ops o = some x) (hi : ops[i]? = some o) (h : XOne P x ρ c.st K)
    (hk : ∀ a' w', OpPost P c N ρ a x.dst K a' w' → K' a' w') : wpOpIn (Fw l) 0 P ops Q i K' a c.w := by
  unfold compOper at hc
  have step : ∀ {K : AV → St → Prop} {Q : Exit → Act → World → Prop}, (∀ t, o.dst = some t → t < N) → XStep P ((compOp P o).getD .bad) ρ.f c.st K → o.wpIn (Fw l) 0 P a c.w (OpPost P c N ρ a o.dst K) Q := by
    intro K Q hd h
    cases hx : compOp P o with
    | none => rw [hx] at h; exact h.elim
    | some x => rw [hx] at h; exact op_sound hs ha hd hx h
  split at hc
  · rename_i hd
    have hd' : ∀ t, o.dst = some t → t < N := by
      intro t ht
      rw [ht] at hd
      simpa using hd
    unfold wpOpIn
    simp only [hi]
    have hab : ∀ f, o.about P c.w a.eval = some f → (Fw l).fn f := fun f _ => Fw_fn l f
    split at hc
    · rename_i hg
      cases hc
      simp only [XOne] at h
      have hw : Region.wanted o (yielded ops a.tmps) = true := by simp [Region.wanted, hg]
      simp only [hw, if_true]
      exact Oper.wpIn_mono hk (step hd' h)
    · rename_i j want hg
      simp only [Option.map_eq_some_iff] at hc
      obtain ⟨d, hjd, hc⟩ := hc
      cases hc
      simp only [XOne] at h
      split at h
      · rename_i y hy
        have hyd : yielded ops a.tmps j = some y := by
          unfold yielded
          rw [hjd]
          simp only [Option.bind_some]
          rw [tmps_some ha.t hy]
        split at h
        · rename_i he
          have hw : Region.wanted o (yielded ops a.tmps) = true := by simp [Region.wanted, hg, hyd, he]
          simp only [hw, if_true]
          exact Oper.wpIn_mono hk (step hd' h)
        · rename_i he
          have hw : Region.wanted o (yielded ops a.tmps) = false := by simp [Region.wanted, hg, hyd, he]
          simp only [hw, Bool.false_eq_true, if_false]
          refine ⟨hab, hk _ _ ⟨c, .tup [], rfl, hs, Ext.refl c, ha.put ?_ hd', h, _, rfl⟩⟩
          simp [RepV, RepL, undef]
      · rename_i hy
        have hyd : yielded ops a.tmps j = none := by
          unfold yielded
          rw [hjd]
          simp only [Option.bind_some]
          rcases tmps_none ha.t hy with h1 | h1 <;> rw [h1]
        have hw : Region.wanted o (yielded ops a.tmps) = false := by simp [Region.wanted, hg, hyd]
        simp only [hw, Bool.false_eq_true, if_false]
        refine ⟨hab, hk _ _ ⟨c, .tup [], rfl, hs, Ext.refl c, ha.put ?_ hd', h, _, rfl⟩⟩
        simp [RepV, RepL, undef]
      · exact h.elim
  · cases hc

theorem wpOpsIn_one {F : Fence} {n : Nat} {ops : Array Oper} {Q : Exit → Act → World → Prop} {i : Nat} {rest : List Nat} {w : World} (h : wpOpIn F n P ops Q i (wpOpsIn F n P ops Q rest) a w) : wpOpsIn F n P ops Q (i :: rest) a w := by
  rw [wpOpsIn_cons]; exact h

theorem compList_get {ops : Array Oper} : ∀ {l : List Oper} {xs : List XOper}, compList P N ops l = some xs → xs.length = l.length ∧ ∀ (i : Nat) (o : Oper), l[i]? = some o → ∃ x, xs[i]? = some x ∧ compOper P N ops o = some x
  | [], xs, h => by simp only [compList, Option.some.injEq] at h; subst h; simp
  | o :: os, xs, h => by
    simp only [compList, Option.bind_eq_some_iff, Option.map_eq_some_iff] at h
    obtain ⟨x, hx, xs', hxs, rfl⟩ := h
    obtain ⟨h1, h2⟩ := compList_get hxs
    refine ⟨by simp [h1], fun i o' hi => ?_⟩
    cases i with
    | zero => simp at hi; subst hi; exact ⟨x, rfl, hx⟩
    | succ i => simp at hi ⊢; exact h2 i o' hi

theorem go_sound {ops : Array Oper} {l : Option Nat} {Q : Exit → Act → World → Prop} {K : Env → St → Prop} : ∀ (os : List Oper) (k : Nat) (xs : List XOper) (c : Cx) (ρ : Env) (a : Act), ops.toList.drop k = os → compList P N ops os = some xs → Sim P c → RepA c N ρ a → XGo P xs ρ c.st K →
    (∀ (c' : Cx) (ρ' : Env) (a' : Act), Sim P c' → Ext c c' → RepA c' N ρ' a' → K ρ' c'.st → Q .normal a' c'.w) → wpOpsIn (Fw l) 0 P ops Q (List.range' k os.length) a c.w := by
  intro os
  induction os with
  | nil =>
    intro k xs c ρ a hk hc hs ha hx hq
    simp only [compList, Option.some.injEq] at hc
    subst hc
    exact hq c ρ a hs (Ext.refl c) ha hx
  | cons o os ih =>
    intro k xs c ρ a hk hc hs ha hx hq
    simp only [compList, Option.bind_eq_some_iff, Option.map_eq_some_iff] at hc
    obtain ⟨x, hxo, xs', hxs, rfl⟩ := hc
    simp only [List.length_cons, List.range'_succ]
    apply wpOpsIn_one
    have hi : ops[k]? = some o := by
      have := congrArg (fun l => l[0]?) hk
      simpa using this
    have hk' : ops.toList.drop (k + 1) = os := by
      have := congrArg List.tail hk
      simpa using this
    simp only [XGo] at hx
    refine one_sound hs ha hxo hi hx ?_
    rintro a' w' ⟨c', v, rfl, h1, h2, h3, h4, _⟩
    exact ih (k + 1) xs' c' _ a' hk' hxs h1 h3 h4 fun c'' ρ'' a'' k1 k2 k3 k4 => hq c'' ρ'' a'' k1 (h2.trans k2) k3 k4

theorem AX.ops {rd : Option (Nat × Nat)} {l : List XOper} {Q : XExit → Env → St → Prop} (h : XGo P l ρ σ (Q .normal)) : AX P N rd (.ops l) ρ σ Q := by
  intro hk hn code hc c a lp h1 h2 h3 h4
  have : ∃ id ops, code = .region id ops false ∧ compList P N ops ops.toList = some l := by
    cases code with
    | region id ops dr =>
      cases dr
      · simp only [comp, Option.map_eq_some_iff] at hc
        obtain ⟨l', hl, he⟩ := hc
        cases he
        exact ⟨id, ops, rfl, hl⟩
      · simp [comp, Option.bind_eq_some_iff, Option.map_eq_some_iff] at hc
    | _ => simp [comp, Option.bind_eq_some_iff, Option.map_eq_some_iff] at hc
  obtain ⟨id, ops, rfl, hl⟩ := this
  subst h1
  apply wpIn_region
  rw [List.range_eq_range', show ops.size = ops.toList.length from (Array.length_toList).symm]
  exact go_sound ops.toList 0 l c ρ a (by simp) hl h2 h3 h fun c' ρ' a' k1 k2 k3 k4 => ⟨c', ρ', .normal, rfl, k1, k2, k3, rfl, k4⟩

end
end Hb
end
