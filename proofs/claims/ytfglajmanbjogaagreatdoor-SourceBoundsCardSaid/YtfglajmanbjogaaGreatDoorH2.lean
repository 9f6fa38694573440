/- A layer for programs of small data: values, stores, code, and an evaluator of code that the kernel runs; part 2. -/
import Derived.Test.YtfglajmanbjogaaGreatDoorH1
import Derived.Laws.BytesString

section
set_option linter.unusedVariables false
set_option linter.unusedSimpArgs false
set_option linter.constructorNameAsVariable false
set_option autoImplicit false
set_option linter.unusedSimpArgs false
set_option linter.unusedVariables false
namespace Hb
open Go

section
variable {P : Prg} {c : Cx} {N : Nat} {ρ : Nat → AV} {a : Act}

theorem exec_v {s : Sem Value} {u : Value} {w : World} (h : s.run P w = .ok u w) : ((do pure (.value (← s)) : Sem Next)).run P w = .ok (.value u) w := by
  simp [h]

theorem RepV.p_live {r st k i o : Nat} {u : Value} (h : RepV c (.p r st k i o) u) (hl : c.σ.live r st = true) : u = .pointer (some ⟨c.ι r, i * k + o, none⟩) := by
  obtain ⟨b, hb, hv⟩ := live_of hl
  simp only [RepV] at h
  exact h.2.2 b hb hv

theorem live_of_cells {σ : Store} {r st : Nat} {cs : List AV} (h : σ.cells r st = some cs) : σ.live r st = true := by
  obtain ⟨st', T, fz, hb⟩ := cells_of h
  unfold Store.live
  rw [hb]; rfl

theorem bounds_sound {lo hi : Option Operand} {xlo xhi : Option XO} {len : Nat} {l h : Nat} (hs : Sim P c) (ht : RepT c N ρ a.tmps) (h1 : compOpt P lo = some xlo) (h2 : compOpt P hi = some xhi)
    (hb : xbounds ρ len xlo xhi = some (l, h)) (sl : Bool) (cap : Nat) (hcap : len ≤ cap) (hne : sl = false → cap = len) :
    (Instr.sliceBounds sl len cap (lo.map a.eval) (hi.map a.eval) none).run P c.w = .ok (l, h, cap) c.w ∧ l ≤ h ∧ h ≤ len := by
  unfold xbounds at hb
  simp only [Option.bind_eq_some_iff, Option.map_eq_some_iff, Prod.mk.injEq] at hb
  obtain ⟨h', hh, l', hl, rfl, rfl⟩ := hb
  have key : ∀ {o : Option Operand} {xo : Option XO} {lim d r : Nat} (lim' : Nat), compOpt P o = some xo → (match xo with
      | none => some d
      | some x => (xidx (x.ev ρ)).bind fun n => if 0 ≤ n ∧ n ≤ (lim : Int) then some n.toNat else none) = some r → lim ≤ lim' →
      (o = none ∧ r = d) ∨ (∃ x k n, o = some x ∧ a.eval x = .int k n ∧ n.toNat = r ∧ 0 ≤ n ∧ n ≤ (lim : Int)) := by
    intro o xo lim d r lim' hc hr hle
    cases o with
    | none => simp only [compOpt, Option.some.injEq] at hc; subst hc; simp at hr; exact .inl ⟨rfl, hr.symm⟩
    | some x =>
      simp only [compOpt, Option.map_eq_some_iff] at hc
      obtain ⟨y, hy, rfl⟩ := hc
      simp only [Option.bind_eq_some_iff] at hr
      obtain ⟨n, hn, hr⟩ := hr
      split at hr
      · rename_i hb
        cases hr
        obtain ⟨k, hk⟩ := int_of (compO_rep hs ht hy) hn
        exact .inr ⟨x, k, n, rfl, hk, rfl, hb.1, hb.2⟩
      · cases hr
  have k1 := key cap h2 hh hcap
  have k2 := key h' h1 hl (Nat.le_refl _)
  rcases k1 with ⟨rfl, rfl⟩ | ⟨x, k, n, rfl, e1, rfl, e2, e3⟩ <;> rcases k2 with ⟨rfl, rfl⟩ | ⟨y, k', n', rfl, f1, rfl, f2, f3⟩ <;>
    simp_all [Instr.sliceBounds, Instr.sliceBound, asIntOf] <;> (try split) <;> (try simp_all) <;> omega

theorem fold_push : ∀ (ns : List Int) (s : ByteArray), ns.foldl (fun r n => r.push (UInt8.ofNat n.toNat)) s = ⟨(s.data.toList ++ ns.map fun n => UInt8.ofNat n.toNat).toArray⟩
  | [], s => by simp
  | n :: ns, s => by
    simp only [List.foldl_cons, fold_push ns]
    apply ByteArray.ext
    simp

theorem bytes_sound {b off n cap : Nat} {cs : List AV} {l : List Nat} (h : RepAt c b off cs) (hl : bytesOf cs = some l) (hn : cs.length = n) :
    (Conv.bytesToString (.slice (some ⟨b, off, none⟩) n cap)).run P c.w = .ok (.string (bs l)) c.w ∧ ∀ x ∈ l, x < 256 := by
  obtain ⟨ys, h1, h2, h3⟩ := run_loadRep (P := P) h
  obtain ⟨ns, rfl, rfl⟩ := bytesOf_rep hl h2
  rw [hn] at h1
  rw [run_bytesToString c.w _ _ _ ns h1, fold_push]
  constructor
  · congr 2
    simp only [bs, ByteArray.data_empty, List.nil_append, List.map_map]
    congr 2
    apply List.map_congr_left
    intro n _
    simp only [Function.comp]
    apply UInt8.toNat_inj.1
    simp
  · intro x hx
    simp only [List.mem_map] at hx
    obtain ⟨n, _, rfl⟩ := hx
    omega

theorem xconv_b2s {v r : AV} {u : Value} (hs : Sim P c) (h : xconv c.σ .b2s v = some r) (hv : RepV c v u) :
    ∃ l : List Nat, r = .s l ∧ ((Conv.bytesToString u).run P c.w = .ok (.string (bs l)) c.w ∧ ∀ x ∈ l, x < 256) ∧ ∃ a n m, u = .slice a n m := by
  simp only [xconv] at h
  split at h
  · rename_i k n cs
    split at h
    · rename_i hk
      subst hk
      simp only [Option.map_eq_some_iff] at h
      obtain ⟨l, hl, rfl⟩ := h
      simp only [RepV] at hv
      obtain ⟨h0, hv⟩ := hv
      rcases hv with ⟨rfl, rfl, rfl⟩ | ⟨b, off, cap, rfl, _, _, hat⟩
      · simp [bytesOf] at hl; subst hl
        exact ⟨[], rfl, by simp [Conv.bytesToString]; rfl, _, _, _, rfl⟩
      · exact ⟨l, rfl, bytes_sound hat hl (by omega), _, _, _, rfl⟩
    · cases h
  · cases h
    simp only [RepV] at hv
    subst hv
    exact ⟨[], rfl, by simp [Conv.bytesToString]; rfl, _, _, _, rfl⟩
  · rename_i r' st i n k
    split at h
    · rename_i hk
      subst hk
      simp only [Option.bind_eq_some_iff] at h
      obtain ⟨cs, hcs, h⟩ := h
      split at h
      · rename_i hle
        simp only [Option.map_eq_some_iff] at h
        obtain ⟨l, hl, rfl⟩ := h
        obtain ⟨arr, T, fzr, fz, e1, e2, e3, e4, st', e5⟩ := hs.cells hcs
        simp only [RepV] at hv
        obtain ⟨off, cap, arr', T', fz', q1, q2, q3, q4⟩ := (hv.2.2 _ e5).2 rfl
        subst q1
        have hat := (e4.drop i).take n
        rw [Nat.zero_add] at hat
        by_cases h0 : cap = 0
        · have hn0 : n = 0 := by omega
          subst hn0
          simp [bytesOf] at hl; subst hl
          exact ⟨[], rfl, bytes_sound (cs := []) (by simp only [RepAt]) rfl rfl, _, _, _, rfl⟩
        · obtain ⟨w1, w2⟩ := q4 h0
          rw [Nat.mul_one] at w1
          subst w1
          exact ⟨l, rfl, bytes_sound hat hl (by simp; omega), _, _, _, rfl⟩
      · cases h
    · cases h
  · cases h

theorem opt_none {o : Option Operand} (h : compOpt P o = some none) : o = none := by
  cases o with
  | none => rfl
  | some x => simp only [compOpt, Option.map_eq_some_iff] at h; obtain ⟨q, _, hq⟩ := h; cases hq

theorem opt_some {o : Option Operand} {y : XO} (h : compOpt P o = some (some y)) : ∃ x, o = some x ∧ compO P x = some y := by
  cases o with
  | none => simp [compOpt] at h
  | some x => simp only [compOpt, Option.map_eq_some_iff, Option.some.injEq] at h; obtain ⟨q, h1, rfl⟩ := h; exact ⟨x, rfl, h1⟩

theorem xlsl_sound {t e : TypeId} {k : Nat} {lo hi mx : Option Operand} {lo1 hi1 mx1 : Option XO} {v r : AV} {u : Value} (hs : Sim P c) (ht : RepT c N ρ a.tmps)
    (hu : P.underlying t = some (.slice e)) (hk : tsz P e = some k) (h2 : compOpt P lo = some lo1) (h3 : compOpt P hi = some hi1) (h4 : compOpt P mx = some mx1)
    (h : xlsl c.σ ρ k lo1 hi1 mx1 v = some r) (hv : RepV c v u) :
    Yields1 P c (Instr.sliceAt t u (lo.map a.eval) (hi.map a.eval) (mx.map a.eval)) r := by
  have zero : ∀ {m : XO} {s0 : Option Addr} {n cap : Nat}, mx1 = some m → lo1 = none → (∃ kk, hi1.map (XO.ev ρ) = some (.i kk 0)) → (∃ kk, m.ev ρ = .i kk 0) → (∀ x, s0 = some x → x.spot = none) →
      Yields1 P c (Instr.sliceAt t (.slice s0 n cap) (lo.map a.eval) (hi.map a.eval) (mx.map a.eval)) .sz := by
    intro m s0 n cap e1 e2 e3 e4 hs0
    subst e1 e2
    obtain ⟨kk, e3⟩ := e3
    obtain ⟨kk', e4⟩ := e4
    obtain ⟨x, rfl, hx⟩ := opt_some h4
    have hlo := opt_none h2
    subst hlo
    simp only [Option.map_eq_some_iff] at e3
    obtain ⟨y, rfl, e3⟩ := e3
    obtain ⟨z, rfl, hz⟩ := opt_some h3
    have r1 := compO_rep hs ht hx
    have r2 := compO_rep hs ht hz
    rw [e4] at r1
    rw [e3] at r2
    simp only [RepV] at r1 r2
    refine ⟨.slice (if 0 = 0 then s0 else s0.map (·.add (0 * k))) (0 - 0) (0 - 0), ?_, by simp only [RepV]; exact ⟨s0, by simp, hs0⟩⟩
    simp [Instr.sliceAt, run_und hu, Instr.slice, Instr.sliceBounds, Instr.sliceBound, asIntOf, r1, r2, run_tsz hk]
  unfold xlsl at h
  split at h
  · rename_i k' n cs
    split at h
    · rename_i hkk
      subst hkk
      simp only [RepV] at hv
      obtain ⟨h0, hv⟩ := hv
      split at h
      · have hmx := opt_none h4
        subst hmx
        simp only [Option.bind_eq_some_iff] at h
        obtain ⟨⟨p, q⟩, hb, h⟩ := h
        simp only at h
        split at h
        case isFalse => cases h
        rename_i hqn
        cases h
        rcases hv with ⟨rfl, rfl, rfl⟩ | ⟨b, off, cap, rfl, hcap, hown, hat⟩
        · obtain ⟨b1, b2, b3⟩ := bounds_sound (P := P) (c := c) hs ht h2 h3 hb true 0 (Nat.le_refl _) (by simp)
          have hq : q = 0 := by omega
          have hp : p = 0 := by omega
          subst hq hp
          refine ⟨.slice none 0 0, ?_, by simp [RepV]⟩
          simp [Instr.sliceAt, run_und hu, Instr.slice, b1, run_tsz hk]
        · obtain ⟨b1, b2, b3⟩ := bounds_sound (P := P) (c := c) hs ht h2 h3 hb true cap (Nat.le_of_eq hcap) (by simp)
          refine ⟨.slice (if cap = p then some ⟨b, off, none⟩ else some ⟨b, off + p * k', none⟩) (q - p) (cap - p), ?_, ?_⟩
          · simp only [Instr.sliceAt, Sem.run_bind, run_und hu, Result.andThen_ok, Instr.slice, Option.map_none, b1, run_tsz hk, Sem.run_pure, Option.map_some, add_none]
          · simp only [RepV]
            have hle : p * k' + (q - p) * k' ≤ n * k' := by
              rw [← Nat.add_mul]; exact Nat.mul_le_mul_right _ (by omega)
            refine ⟨by simp; omega, .inr ?_⟩
            split
            · rename_i hcp
              have : q - p = 0 := by omega
              refine ⟨b, off, cap - p, rfl, by omega, ?_, ?_⟩
              · simp [this]
              · simp [this, RepAt]
            · refine ⟨b, off + p * k', cap - p, rfl, by omega, fun hne => hown (fun h => hne (by simp [h])), (hat.drop _).take _⟩
      · split at h
        · rename_i m _ _ _ e1 e2
          cases h
          rcases hv with ⟨rfl, rfl, rfl⟩ | ⟨b, off, cap, rfl, hcap, hown, hat⟩
          · exact zero rfl rfl ⟨_, e1⟩ ⟨_, e2⟩ (by intro x h; cases h <;> rfl)
          · exact zero rfl rfl ⟨_, e1⟩ ⟨_, e2⟩ (by intro x h; cases h <;> rfl)
        · cases h
    · cases h
  · rename_i r' st i n k'
    split at h
    · rename_i hkk
      obtain ⟨hkk, hlive⟩ := hkk
      subst hkk
      have hv0 := hv
      simp only [RepV] at hv
      obtain ⟨bl, hbl, hvirt⟩ := live_of hlive
      obtain ⟨off, cap, arr, T, fz, rfl, hcap, e3, e4⟩ := (hv.2.2 bl hbl).2 hvirt
      split at h
      · have hmx := opt_none h4
        subst hmx
        simp only [Option.map_eq_some_iff] at h
        obtain ⟨⟨p, q⟩, hb, rfl⟩ := h
        obtain ⟨b1, b2, b3⟩ := bounds_sound (P := P) (c := c) hs ht h2 h3 hb true cap hcap (by simp)
        refine ⟨.slice (some ⟨c.ι r', if cap = p then off else off + p * k', none⟩) (q - p) (cap - p), ?_, ?_⟩
        · simp only [Instr.sliceAt, Sem.run_bind, run_und hu, Result.andThen_ok, Instr.slice, Option.map_none, b1, run_tsz hk, Sem.run_pure, Option.map_some, add_none]
          split <;> rfl
        · simp only [RepV]
          refine ⟨⟨_, _, rfl⟩, hv.2.1, fun blk hblk => ⟨fun hv' => ?_, fun hv' => ?_⟩⟩
          · rw [hblk] at hbl; cases hbl; rw [hvirt] at hv'; cases hv'
          · refine ⟨_, cap - p, arr, T, fz, rfl, by omega, e3, fun hne => ?_⟩
            rw [if_neg (by omega)]
            obtain ⟨w1, w2⟩ := e4 (by omega)
            refine ⟨by rw [w1, Nat.add_mul], ?_⟩
            rw [show i + p + (cap - p) = i + cap from by omega]; exact w2
      · split at h
        · rename_i m _ _ _ e1 e2
          cases h
          exact zero rfl rfl ⟨_, e1⟩ ⟨_, e2⟩ (by intro x h; cases h <;> rfl)
        · cases h
    · cases h
  · simp only [RepV] at hv
    subst hv
    split at h
    · have hmx := opt_none h4
      subst hmx
      simp only [Option.map_eq_some_iff] at h
      obtain ⟨⟨p, q⟩, hb, rfl⟩ := h
      obtain ⟨b1, b2, b3⟩ := bounds_sound (P := P) (c := c) hs ht h2 h3 hb true 0 (Nat.le_refl _) (by simp)
      have hq : q = 0 := by omega
      have hp : p = 0 := by omega
      subst hq hp
      refine ⟨.slice none 0 0, ?_, by simp [RepV]⟩
      simp [Instr.sliceAt, run_und hu, Instr.slice, b1, run_tsz hk]
    · split at h
      · rename_i m _ _ _ e1 e2
        cases h
        exact zero rfl rfl ⟨_, e1⟩ ⟨_, e2⟩ (by intro x h; cases h <;> rfl)
      · cases h
  · cases h

theorem fold_max {k : IntKind} : ∀ {l : List AV} {vs : List Value} {p : Int} {r : AV}, xfold (fun a b => if b > a then b else a) k p l = some r → RepL c l vs →
    Yields1 P c (vs.foldlM Builtin.max2 (.int k p)) r
  | [], vs, p, r, h, hr => by
    simp only [xfold, Option.some.injEq] at h
    subst h
    simp only [RepL] at hr
    subst hr
    exact ⟨.int k p, by simp, by simp [RepV]⟩
  | x :: xs, vs, p, r, h, hr => by
    simp only [RepL] at hr
    obtain ⟨y, ys, rfl, h1, h2⟩ := hr
    unfold xfold at h
    split at h
    · rename_i heq; cases heq
    · rename_i k' b xs' heq
      cases heq
      split at h
      · rename_i hk
        subst hk
        simp only [RepV] at h1
        subst h1
        obtain ⟨u, hu1, hu2⟩ := fold_max h h2
        refine ⟨u, ?_, hu2⟩
        rw [List.foldlM_cons]
        simp only [Sem.run_bind, Builtin.max2, Sem.run_pure, Result.andThen_ok]
        exact hu1
      · cases h
    · cases h

theorem fold_min {k : IntKind} : ∀ {l : List AV} {vs : List Value} {p : Int} {r : AV}, xfold (fun a b => if b < a then b else a) k p l = some r → RepL c l vs →
    Yields1 P c (vs.foldlM Builtin.min2 (.int k p)) r
  | [], vs, p, r, h, hr => by
    simp only [xfold, Option.some.injEq] at h
    subst h
    simp only [RepL] at hr
    subst hr
    exact ⟨.int k p, by simp, by simp [RepV]⟩
  | x :: xs, vs, p, r, h, hr => by
    simp only [RepL] at hr
    obtain ⟨y, ys, rfl, h1, h2⟩ := hr
    unfold xfold at h
    split at h
    · rename_i heq; cases heq
    · rename_i k' b xs' heq
      cases heq
      split at h
      · rename_i hk
        subst hk
        simp only [RepV] at h1
        subst h1
        obtain ⟨u, hu1, hu2⟩ := fold_min h h2
        refine ⟨u, ?_, hu2⟩
        rw [List.foldlM_cons]
        simp only [Sem.run_bind, Builtin.min2, Sem.run_pure, Result.andThen_ok]
        exact hu1
      · cases h
    · cases h

set_option maxHeartbeats 1000000 in
theorem xpure_sound {o : Oper} {x : XOp} {v : AV} (hs : Sim P c) (ht : RepT c N ρ a.tmps) (hc : compOp P o = some x) (hx : xpure c.σ ρ x = some v) :
    ∃ u, (execOp a.eval o).run P c.w = .ok (.value u) c.w ∧ RepV c v u := by
  obtain ⟨dst, op, type, pos, after, guard⟩ := o
  cases op <;> simp only [compOp] at hc
  case move x0 =>
    simp only [Option.map_eq_some_iff] at hc
    obtain ⟨y, h1, rfl⟩ := hc
    simp only [xpure, Option.some.injEq] at hx
    subst hx
    exact ⟨_, rfl, compO_rep hs ht h1⟩
  case assign x0 =>
    simp only [Option.map_eq_some_iff] at hc
    obtain ⟨y, h1, rfl⟩ := hc
    simp only [xpure, Option.some.injEq] at hx
    subst hx
    exact ⟨_, rfl, compO_rep hs ht h1⟩
  case pick c0 a0 b0 =>
    simp only [Option.map_eq_some_iff, Option.bind_eq_some_iff] at hc
    obtain ⟨c1, h1, a1, h2, b1, h3, rfl⟩ := hc
    simp only [xpure] at hx
    split at hx
    · rename_i t ht'
      cases hx
      have hc1 := compO_rep hs ht h1
      rw [ht'] at hc1
      simp only [RepV] at hc1
      cases t with
      | true => exact ⟨a.eval a0, by simp [execOp, hc1, asBool], compO_rep hs ht h2⟩
      | false => exact ⟨a.eval b0, by simp [execOp, hc1, asBool], compO_rep hs ht h3⟩
    · cases hx
  case alloc e =>
    simp only [Option.map_eq_some_iff] at hc
    obtain ⟨z, h1, rfl⟩ := hc
    simp [xpure] at hx
  case box e y =>
    simp only [Option.map_eq_some_iff] at hc
    obtain ⟨z, h1, rfl⟩ := hc
    simp [xpure] at hx
  case build t ps =>
    split at hc
    · rename_i fs hu
      split at hc
      · rename_i hall
        simp only [Option.map_eq_some_iff, Option.bind_eq_some_iff] at hc
        obtain ⟨z, hz, l, hl, rfl⟩ := hc
        simp only [xpure, Option.map_eq_some_iff] at hx
        obtain ⟨cs, hf, rfl⟩ := hx
        obtain ⟨zv, hz1, hz2⟩ := run_tzero hz c.w
        obtain ⟨r1, r2⟩ := litL_rep (c := c) hz2
        obtain ⟨pl, hp1, hp2⟩ := run_places (P := P) c.w fs.toList hall
        have hpl : (fs.mapM fun f => do pure (f.offset, ← Go.sizeOf f.type) : Sem (Array (Nat × Nat))).run P c.w = .ok pl.toArray c.w := by
          rw [Array.mapM_eq_mapM_toList]
          simp only [Sem.run_map, hp1, Result.andThen_ok]
        have hfun : (fun i : Nat => pl.toArray[i]?) = fieldPlaces P fs := by
          funext i
          simp only [List.getElem?_toArray, hp2, fieldPlaces, Array.getElem?_toList]
          try rfl
        obtain ⟨arr, e1, e2, e3⟩ := fill_rep (c := c) hs ht (fieldPlaces P fs) hl hf r1 r2
        refine ⟨.agg arr, ?_, by simp only [RepV]; exact ⟨arr, rfl, e2, e3⟩⟩
        simp only [execOp]
        refine exec_v ?_
        simp only [Instr.build, Sem.run_bind, hz1, Result.andThen_ok, run_und hu, hpl]
        have e1' : Instr.fill (fun x => pl.toArray[x]?) zv.cells (ps.map fun x => (x.1, a.eval x.2)).toList = some arr := by
          rw [hfun, Array.toList_map]; exact e1
        rw [e1']
        rfl
      · cases hc
    · rename_i n e hu
      simp only [Option.map_eq_some_iff, Option.bind_eq_some_iff] at hc
      obtain ⟨k, hk, z, hz, l, hl, rfl⟩ := hc
      simp only [xpure, Option.map_eq_some_iff] at hx
      obtain ⟨cs, hf, rfl⟩ := hx
      obtain ⟨zv, hz1, hz2⟩ := run_tzero hz c.w
      obtain ⟨r1, r2⟩ := litL_rep (c := c) hz2
      obtain ⟨arr, e1, e2, e3⟩ := fill_rep (c := c) hs ht _ hl hf r1 r2
      refine ⟨.agg arr, ?_, by simp only [RepV]; exact ⟨arr, rfl, e2, e3⟩⟩
      simp only [execOp]
      refine exec_v ?_
      simp only [Instr.build, Sem.run_bind, hz1, Result.andThen_ok, run_und hu, run_tsz hk]
      have e1' : Instr.fill (fun i => some (i * k, k)) zv.cells (ps.map fun x => (x.1, a.eval x.2)).toList = some arr := by
        rw [Array.toList_map]; exact e1
      rw [e1']
      rfl
    · cases hc
  case buildSlice t n ps =>
    split at hc
    · simp only [Option.bind_eq_some_iff] at hc
      obtain ⟨k, hk, z, hz, hc⟩ := hc
      split at hc
      · simp only [Option.map_eq_some_iff] at hc
        obtain ⟨l, hl, rfl⟩ := hc
        simp [xpure] at hx
      · cases hc
    · cases hc
  case load t y =>
    simp only [Option.map_eq_some_iff, Option.bind_eq_some_iff] at hc
    obtain ⟨g, hg, n, hn, y1, h1, rfl⟩ := hc
    have hr := compO_rep hs ht h1
    simp only [xpure] at hx
    split at hx
    · rename_i r st k i o he
      rw [he] at hr
      simp only [Option.bind_eq_some_iff] at hx
      obtain ⟨cs, hcs, l, hl, hp⟩ := hx
      obtain ⟨arr, T, fzr, fz, e1, e2, e3, e4, st', e5⟩ := hs.cells hcs
      have hv := hr.p_live (live_of_cells hcs)
      obtain ⟨q1, q2⟩ := loadN_at e4 hl
      rw [Nat.zero_add] at q1
      obtain ⟨u, hu1, hu2⟩ := run_load_of hg hn q1 q2 hp
      refine ⟨u, ?_, hu2⟩
      simp only [execOp, Instr.loadAt, hv, Instr.sureAddr]
      exact exec_v hu1
    · rename_i cs k i o he
      rw [he] at hr
      simp only [Option.bind_eq_some_iff] at hx
      obtain ⟨l, hl, hp⟩ := hx
      simp only [RepV] at hr
      obtain ⟨b, off, hv, _, hat⟩ := hr
      obtain ⟨q1, q2⟩ := loadN_at hat hl
      obtain ⟨u, hu1, hu2⟩ := run_load_of hg hn q1 q2 hp
      refine ⟨u, ?_, hu2⟩
      simp only [execOp, Instr.loadAt, hv, Instr.sureAddr]
      exact exec_v hu1
    · cases hx
  case store t y z =>
    simp only [Option.map_eq_some_iff, Option.bind_eq_some_iff] at hc
    obtain ⟨n, hn, y1, h1, z1, h2, rfl⟩ := hc
    simp [xpure] at hx
  case nilCheck y =>
    simp only [Option.map_eq_some_iff] at hc
    obtain ⟨y1, h1, rfl⟩ := hc
    have hr := compO_rep hs ht h1
    simp only [xpure] at hx
    split at hx
    · rename_i r st k i o he
      split at hx
      · rename_i hl
        cases hx
        rw [he] at hr
        have hv := hr.p_live hl
        exact ⟨a.eval y, by simp [execOp, hv], hr⟩
      · cases hx
    · rename_i cs k i o he
      cases hx
      rw [he] at hr
      have hr' := hr
      simp only [RepV] at hr'
      obtain ⟨b, off, hv, _⟩ := hr'
      exact ⟨a.eval y, by simp [execOp, hv], hr⟩
    · rename_i f p q he
      cases hx
      rw [he] at hr
      have hr' := hr
      simp only [RepV] at hr'
      obtain ⟨f', c', hv, _⟩ := hr'
      exact ⟨a.eval y, by simp [execOp, hv], hr⟩
    · rename_i t w' he
      cases hx
      rw [he] at hr
      have hr' := hr
      simp only [RepV] at hr'
      obtain ⟨y', hv, _⟩ := hr'
      exact ⟨a.eval y, by simp [execOp, hv], hr⟩
    · cases hx
  case binOp op t y z t' =>
    simp only [Option.bind_eq_some_iff] at hc
    obtain ⟨y1, h1, z1, h2, hc⟩ := hc
    have hr1 := compO_rep hs ht h1
    have hr2 := compO_rep hs ht h2
    have plain : ∀ {w' : AV}, xbin op (y1.ev ρ) (z1.ev ρ) = some w' → ∃ u, (execOp a.eval ⟨dst, .binOp op t y z t', type, pos, after, guard⟩).run P c.w = .ok (.value u) c.w ∧ RepV c w' u := by
      intro w' hw
      obtain ⟨u, hu1, hu2⟩ := xbin_sound hw hr1 hr2 t (P := P)
      refine ⟨u, ?_, hu2⟩
      simp only [execOp]
      refine exec_v ?_
      simp only [Sem.run_bind, eqGuard_ok op t y z _ (xbin_plain hw hr1), Result.andThen_ok, hu1]
    have eqs : ∀ {k : XEq}, eqType P t k → (op = .eql ∨ op = .neq) → x = .eq k (op == .neq) y1 z1 → ∃ u, (execOp a.eval ⟨dst, .binOp op t y z t', type, pos, after, guard⟩).run P c.w = .ok (.value u) c.w ∧ RepV c v u := by
      intro k hk hop hxx
      subst hxx
      simp only [xpure, Option.map_eq_some_iff] at hx
      obtain ⟨b, hb, rfl⟩ := hx
      obtain ⟨p1, p2, p3⟩ := xeq_sound hb hr1 hr2 hk c.w
      rcases hop with rfl | rfl
      · refine ⟨.bool b, ?_, by simp [RepV]⟩
        simp only [execOp]
        refine exec_v ?_
        simp only [Sem.run_bind, eqGuard_ok _ t y z _ p1, Result.andThen_ok, p2]
      · refine ⟨.bool (!b), ?_, by simp [RepV]⟩
        simp only [execOp]
        refine exec_v ?_
        simp only [Sem.run_bind, eqGuard_ok _ t y z _ p1, Result.andThen_ok, p3]
    have ifcs : ∀ {ms : Array (String × TypeId)}, P.underlying t = some (.interface ms) → (op = .eql ∨ op = .neq) → compO P z = some (.c .ni) → x = .eq .ifc (op == .neq) y1 (.c .ni) → ∃ u, (execOp a.eval ⟨dst, .binOp op t y z t', type, pos, after, guard⟩).run P c.w = .ok (.value u) c.w ∧ RepV c v u := by
      intro ms hu hop hz hxx
      subst hxx
      simp only [xpure, XO.ev, Option.map_eq_some_iff] at hx
      obtain ⟨b, hb, rfl⟩ := hx
      have hzv : ∃ v', z = .const v' ∧ a.eval z = .nilIface := by
        cases z <;> simp only [compO] at hz <;> try (cases hz; done)
        case global g => simp only [Option.some.injEq, XO.c.injEq] at hz; split at hz <;> cases hz
        rename_i v'
        have := compO_rep (c := c) hs ht (o := .const v') (x := .c .ni) hz
        simp only [XO.ev, RepV] at this
        exact ⟨v', rfl, this⟩
      obtain ⟨v', rfl, hev⟩ := hzv
      obtain ⟨p1, p2, p3, p4⟩ := ifc_nil (y := y) (v := v') hb hr1 hu c.w
      rcases hop with rfl | rfl
      · refine ⟨.bool b, ?_, by simp [RepV]⟩
        simp only [execOp]
        refine exec_v ?_
        simp only [hev, Sem.run_bind, p3, Result.andThen_ok, p1]
      · refine ⟨.bool (!b), ?_, by simp [RepV]⟩
        simp only [execOp]
        refine exec_v ?_
        simp only [hev, Sem.run_bind, p4, Result.andThen_ok, p2]
    unfold compBin at hc
    split at hc
    · split at hc
      · cases hc; exact plain hx
      · cases hc; exact plain hx
      · rename_i hu; cases hc; exact eqs (k := .bool) hu (.inl rfl) rfl
      · rename_i hu; cases hc; exact eqs (k := .slc) ⟨_, hu⟩ (.inl rfl) rfl
      · rename_i hu; cases hc; exact eqs (k := .map) ⟨_, _, hu⟩ (.inl rfl) rfl
      · rename_i hu; cases hc; exact eqs (k := .fun) ⟨_, _, _, hu⟩ (.inl rfl) rfl
      · rename_i hu; cases hc; exact eqs (k := .ptr) ⟨_, hu⟩ (.inl rfl) rfl
      · rename_i hu
        split at hc
        · cases hc; exact ifcs hu (.inl rfl) h2 rfl
        · cases hc
      · cases hc
    · split at hc
      · cases hc; exact plain hx
      · cases hc; exact plain hx
      · rename_i hu; cases hc; exact eqs (k := .bool) hu (.inr rfl) rfl
      · rename_i hu; cases hc; exact eqs (k := .slc) ⟨_, hu⟩ (.inr rfl) rfl
      · rename_i hu; cases hc; exact eqs (k := .map) ⟨_, _, hu⟩ (.inr rfl) rfl
      · rename_i hu; cases hc; exact eqs (k := .fun) ⟨_, _, _, hu⟩ (.inr rfl) rfl
      · rename_i hu; cases hc; exact eqs (k := .ptr) ⟨_, hu⟩ (.inr rfl) rfl
      · rename_i hu
        split at hc
        · cases hc; exact ifcs hu (.inr rfl) h2 rfl
        · cases hc
      · cases hc
    · cases hc; exact plain hx
  case unOp op t y =>
    simp only [Option.map_eq_some_iff] at hc
    obtain ⟨y1, h1, rfl⟩ := hc
    have hr := compO_rep hs ht h1
    simp only [xpure] at hx
    split at hx
    · rename_i k n he
      cases hx
      rw [he] at hr
      simp only [RepV] at hr
      refine ⟨.int k (k.wrap (0 - n)), ?_, by simp [RepV]⟩
      simp only [execOp]
      refine exec_v ?_
      simp [hr, Op.unary, Op.intArith]
    · rename_i b he
      cases hx
      rw [he] at hr
      simp only [RepV] at hr
      refine ⟨.bool (!b), ?_, by simp [RepV]⟩
      simp only [execOp]
      refine exec_v ?_
      simp [hr, Op.unary]
    · cases hx
  case convert sr ds y =>
    simp only [Option.bind_eq_some_iff] at hc
    obtain ⟨y1, h1, hc⟩ := hc
    have hr := compO_rep hs ht h1
    unfold compConv at hc
    split at hc
    · rename_i k0 k hu1 hu2
      cases hc
      simp only [xpure, xconv] at hx
      split at hx
      · rename_i k' n hk
        cases hx
        rw [hk] at hr
        simp only [RepV] at hr
        refine ⟨.int k (k.wrap n), ?_, by simp [RepV]⟩
        simp only [execOp]
        refine exec_v ?_
        simp [hr, convert, run_und hu1, run_und hu2, Conv.intToInt]
      · cases hx
    · rename_i hu1 hu2
      cases hc
      simp only [xpure, xconv] at hx
      split at hx
      · rename_i l hk
        cases hx
        rw [hk] at hr
        simp only [RepV] at hr
        refine ⟨.string (bs l), ?_, by simp only [RepV]; exact ⟨trivial, hr.2⟩⟩
        simp only [execOp]
        refine exec_v ?_
        simp [hr.1, convert, run_und hu1, run_und hu2]
      · cases hx
    · rename_i e hu1 hu2
      split at hc
      · cases hc
        simp [xpure, xconv] at hx
      · cases hc
    · rename_i e hu1 hu2
      split at hc
      · rename_i hu3
        cases hc
        simp only [xpure] at hx
        obtain ⟨l, rfl, ⟨hl, hlb⟩, a', n', m', hu⟩ := xconv_b2s hs hx hr
        refine ⟨.string (bs l), ?_, by simp only [RepV]; exact ⟨trivial, hlb⟩⟩
        simp only [execOp]
        refine exec_v ?_
        rw [hu] at hl ⊢
        rw [run_convert_bytes_string c.w sr ds e _ _ _ hu1 hu3 hu2, hl]
      · cases hc
    · cases hc
  case makeInterface t y =>
    split at hc
    · cases hc
    · cases hc
    · rename_i hn hm
      simp only [Option.map_eq_some_iff] at hc
      obtain ⟨y1, h1, rfl⟩ := hc
      simp only [xpure, Option.some.injEq] at hx
      subst hx
      have hr := compO_rep hs ht h1
      refine ⟨.iface t (a.eval y), ?_, by simp only [RepV]; exact ⟨_, rfl, hr⟩⟩
      simp only [execOp]
      refine exec_v ?_
      cases hu : P.underlying t with
      | none => exact absurd hu hm
      | some d =>
        cases d <;> simp [Instr.makeInterface, run_und hu]
        exact absurd hu (hn _)
  case makeFunc f first cap =>
    simp only [Option.map_eq_some_iff, Option.bind_eq_some_iff] at hc
    obtain ⟨y1, h1, z1, h2, rfl⟩ := hc
    simp only [xpure, Option.some.injEq] at hx
    subst hx
    refine ⟨.func f (first.map a.eval) (cap.map a.eval), by simp [execOp, Instr.makeFunc], ?_⟩
    simp only [RepV]
    exact ⟨_, _, rfl, by rw [Array.toList_map]; exact compOs_rep hs ht h1, by rw [Array.toList_map]; exact compOs_rep hs ht h2⟩
  case makeSlice t y z =>
    split at hc
    · split at hc
      · split at hc
        · simp only [Option.map_eq_some_iff, Option.bind_eq_some_iff] at hc
          obtain ⟨_, _, _, _, rfl⟩ := hc
          simp [xpure] at hx
        · cases hc
      · cases hc
    · cases hc
  case slice t y lo hi mx =>
    simp only [Option.bind_eq_some_iff] at hc
    obtain ⟨y1, h1, lo1, h2, hi1, h3, mx1, h4, hc⟩ := hc
    have hr := compO_rep hs ht h1
    split at hc
    · rename_i hu
      split at hc
      · rename_i hmx
        cases hc
        have hmx' : mx = none := by
          cases mx with
          | none => rfl
          | some x => simp only [compOpt, Option.map_eq_some_iff] at h4; obtain ⟨q, _, rfl⟩ := h4; simp at hmx
        subst hmx'
        simp only [xpure] at hx
        split at hx
        · rename_i l he
          rw [he] at hr
          simp only [RepV] at hr
          simp only [Option.map_eq_some_iff] at hx
          obtain ⟨⟨p, q⟩, hb, rfl⟩ := hx
          obtain ⟨b1, b2, b3⟩ := bounds_sound (P := P) (c := c) hs ht h2 h3 hb false l.length (Nat.le_refl _) (fun _ => rfl)
          refine ⟨.string (bs ((l.take q).drop p)), ?_, by simp only [RepV]; exact ⟨trivial, fun x hx => hr.2 x (List.mem_of_mem_take (List.mem_of_mem_drop hx))⟩⟩
          simp only [execOp]
          refine exec_v ?_
          have hsz : (bs l).size = l.length := bs_size l
          simp only [hr.1, Instr.sliceAt, Sem.run_bind, run_und hu, Result.andThen_ok, Instr.slice, Option.map_none, Option.isSome_none, Bool.false_eq_true, if_false, Sem.run_pure, hsz, b1]
          congr 2
          apply ByteArray.ext
          simp [bs, List.take_drop, show p + (q - p) = q from by omega, List.map_drop, List.map_take]
        · cases hx
      · cases hc
    · rename_i e hu
      simp only [Option.map_eq_some_iff] at hc
      obtain ⟨k, hk, rfl⟩ := hc
      simp only [xpure] at hx
      obtain ⟨u, hu1, hu2⟩ := xlsl_sound hs ht hu hk h2 h3 h4 hx hr
      exact ⟨u, by simp only [execOp]; exact exec_v hu1, hu2⟩
    · cases hc
  case fieldAddr s0 y f =>
    simp only [Option.bind_eq_some_iff] at hc
    obtain ⟨y1, h1, hc⟩ := hc
    have hr := compO_rep hs ht h1
    split at hc
    · rename_i fs hu
      split at hc
      · rename_i fd hf
        simp only [Option.bind_eq_some_iff] at hc
        obtain ⟨n, hn, hc⟩ := hc
        split at hc
        · cases hc
        · rename_i hn0
          cases hc
          simp only [xpure] at hx
          split at hx
          · rename_i r st k i o he
            rw [he] at hr
            split at hx
            · rename_i hl
              cases hx
              have hv := hr.p_live hl
              refine ⟨.pointer (some ⟨c.ι r, i * k + (o + fd.offset), none⟩), ?_, ?_⟩
              · simp only [execOp]
                refine exec_v ?_
                simp only [hv, Instr.fieldAt, Sem.run_bind, run_und hu, Result.andThen_ok, hf, Instr.sureAddr, Sem.run_pure, fieldPlace, run_tsz hn, hn0, if_false, add_none]
                simp [Nat.add_assoc]
              · simp only [RepV] at hr ⊢
                exact ⟨⟨_, rfl⟩, hr.2.1, fun _ _ _ => trivial⟩
            · cases hx
          · rename_i cs k i o he
            rw [he] at hr
            cases hx
            simp only [RepV] at hr
            obtain ⟨b, off, hv, q1, q2⟩ := hr
            refine ⟨.pointer (some ⟨b, off + (i * k + (o + fd.offset)), none⟩), ?_, ?_⟩
            · simp only [execOp]
              refine exec_v ?_
              simp only [hv, Instr.fieldAt, Sem.run_bind, run_und hu, Result.andThen_ok, hf, Instr.sureAddr, Sem.run_pure, fieldPlace, run_tsz hn, hn0, if_false, add_none]
              simp [Nat.add_assoc]
            · simp only [RepV]
              exact ⟨b, off, rfl, q1, q2⟩
          · cases hx
      · cases hc
    · cases hc
  case field t y f =>
    simp only [Option.bind_eq_some_iff] at hc
    obtain ⟨y1, h1, hc⟩ := hc
    have hr := compO_rep hs ht h1
    split at hc
    · rename_i fs hu
      split at hc
      · rename_i fd hf
        simp only [Option.bind_eq_some_iff, Option.map_eq_some_iff] at hc
        obtain ⟨g, hg, n, hn, rfl⟩ := hc
        simp only [xpure] at hx
        split at hx
        · rename_i l he
          rw [he] at hr
          split at hx
          · rename_i hle
            simp only [RepV] at hr
            obtain ⟨cs, hv, r1, r2⟩ := hr
            have hlen := r1.length
            have q1 : RepL c ((l.drop fd.offset).take n) ((cs.toList.drop fd.offset).take n) := (r1.drop _).take _
            obtain ⟨p1, p2⟩ := packV_rep hx q1 (fun y hy => r2 y (List.mem_of_mem_drop (List.mem_of_mem_take hy)))
            cases g with
            | true =>
              refine ⟨_, ?_, p1 rfl⟩
              simp only [execOp]
              refine exec_v ?_
              simp only [hv, Instr.field, Sem.run_bind, run_und hu, Result.andThen_ok, hf, asAgg, Sem.run_pure, part, run_tagg hg, if_true, run_tsz hn]
              congr 2
              apply Array.toList_inj.1
              simp [List.take_drop]
            | false =>
              obtain ⟨y', hy1, hy2⟩ := p2 rfl
              refine ⟨y', ?_, hy2⟩
              simp only [execOp]
              refine exec_v ?_
              have hget : cs[fd.offset]? = some y' := by
                have : (cs.toList.drop fd.offset)[0]? = some y' := by
                  have h0 : ((cs.toList.drop fd.offset).take n)[0]? = some y' := by rw [hy1]; rfl
                  rw [List.getElem?_take] at h0
                  split at h0
                  · exact h0
                  · cases h0
                rw [List.getElem?_drop] at this
                simpa using this
              simp [hv, Instr.field, run_und hu, hf, asAgg, part, run_tagg hg, hget]
          · cases hx
        · cases hx
      · cases hc
    · cases hc
  case indexAddr t y z =>
    simp only [Option.bind_eq_some_iff] at hc
    obtain ⟨y1, h1, z1, h2, hc⟩ := hc
    have hr1 := compO_rep hs ht h1
    have hr2 := compO_rep hs ht h2
    split at hc
    · rename_i e hu
      simp only [Option.map_eq_some_iff] at hc
      obtain ⟨k, hk, rfl⟩ := hc
      simp only [xpure, Option.bind_eq_some_iff] at hx
      obtain ⟨j, hj, hx⟩ := hx
      obtain ⟨ki, hi⟩ := int_of hr2 hj
      split at hx
      · rename_i k' n cs _ he
        rw [he] at hr1
        split at hx
        · rename_i hcond
          obtain ⟨rfl, hj0, hj1⟩ := hcond
          cases hx
          simp only [RepV] at hr1
          obtain ⟨h0, hv⟩ := hr1
          rcases hv with ⟨rfl, rfl, hv⟩ | ⟨b, off, cap, hv, hcap, hown, hat⟩
          · omega
          · refine ⟨.pointer (some ⟨b, off + (j.toNat * k' + 0), none⟩), ?_, by simp only [RepV]; exact ⟨b, off, rfl, hown, hat⟩⟩
            simp only [execOp]
            refine exec_v ?_
            simp [hv, hi, Instr.indexAt, asIntOf, run_und hu, hj0, hj1, run_tsz hk, add_none]
        · cases hx
      · rename_i r st i n k' _ he
        rw [he] at hr1
        split at hx
        · rename_i hcond
          obtain ⟨rfl, hj0, hj1, hlive⟩ := hcond
          cases hx
          simp only [RepV] at hr1
          obtain ⟨bl, hbl, hvirt⟩ := live_of hlive
          obtain ⟨off, cap, arr, T, fz, hv, hcap, e3, e4⟩ := (hr1.2.2 bl hbl).2 hvirt
          obtain ⟨w1, w2⟩ := e4 (by omega)
          refine ⟨.pointer (some ⟨c.ι r, (i + j.toNat) * k' + 0, none⟩), ?_, by simp only [RepV]; exact ⟨⟨_, rfl⟩, hr1.2.1, fun _ _ _ => trivial⟩⟩
          simp only [execOp]
          refine exec_v ?_
          simp [hv, hi, Instr.indexAt, asIntOf, run_und hu, hj0, hj1, run_tsz hk, add_none, w1, Nat.add_mul]
        · cases hx
      · rename_i h _; cases h
      · rename_i h _; cases h
      · cases hx
    · rename_i n e hu
      split at hc
      · cases hc
      · rename_i hn1
        simp only [Option.map_eq_some_iff] at hc
        obtain ⟨k, hk, rfl⟩ := hc
        simp only [xpure, Option.bind_eq_some_iff] at hx
        obtain ⟨j, hj, hx⟩ := hx
        obtain ⟨ki, hi⟩ := int_of hr2 hj
        split at hx
        · rename_i h _; cases h
        · rename_i h _; cases h
        · rename_i len r st k' i o hl he
          cases hl
          rw [he] at hr1
          split at hx
          · rename_i hcond
            obtain ⟨hj0, hj1, hlive⟩ := hcond
            cases hx
            have hv := hr1.p_live hlive
            refine ⟨.pointer (some ⟨c.ι r, i * k' + (o + j.toNat * k), none⟩), ?_, by simp only [RepV] at hr1 ⊢; exact ⟨⟨_, rfl⟩, hr1.2.1, fun _ _ _ => trivial⟩⟩
            simp only [execOp]
            refine exec_v ?_
            simp [hv, hi, Instr.indexAt, asIntOf, run_und hu, hj0, hj1, run_tsz hk, add_none, Instr.sureAddr, Nat.add_assoc]
          · cases hx
        · rename_i len cs k' i o hl he
          cases hl
          rw [he] at hr1
          split at hx
          · rename_i hcond
            obtain ⟨hj0, hj1⟩ := hcond
            cases hx
            simp only [RepV] at hr1
            obtain ⟨b, off, hv, hown, hat⟩ := hr1
            refine ⟨.pointer (some ⟨b, off + (i * k' + (o + j.toNat * k)), none⟩), ?_, by simp only [RepV]; exact ⟨b, off, rfl, hown, hat⟩⟩
            simp only [execOp]
            refine exec_v ?_
            simp [hv, hi, Instr.indexAt, asIntOf, run_und hu, hj0, hj1, run_tsz hk, add_none, Instr.sureAddr, Nat.add_assoc]
          · cases hx
        · cases hx
    · cases hc
  case index t y z =>
    simp only [Option.bind_eq_some_iff] at hc
    obtain ⟨y1, h1, z1, h2, hc⟩ := hc
    have hr1 := compO_rep hs ht h1
    have hr2 := compO_rep hs ht h2
    split at hc
    · rename_i hu
      cases hc
      simp only [xpure, Option.bind_eq_some_iff] at hx
      obtain ⟨j, hj, hx⟩ := hx
      obtain ⟨ki, hi⟩ := int_of hr2 hj
      split at hx
      · rename_i l he
        rw [he] at hr1
        simp only [RepV] at hr1
        split at hx
        · rename_i hj0
          simp only [Option.map_eq_some_iff] at hx
          obtain ⟨b, hb, rfl⟩ := hx
          refine ⟨.int .u8 (b : Int), ?_, by simp [RepV]⟩
          simp only [execOp]
          refine exec_v ?_
          have hb8 : b < 256 := hr1.2 b (List.mem_of_getElem? hb)
          have hget : (bs l)[j.toNat]? = some (UInt8.ofNat b) := by
            have : j.toNat < l.length := by
              rcases Nat.lt_or_ge j.toNat l.length with h | h
              · exact h
              · rw [List.getElem?_eq_none h] at hb; cases hb
            rw [List.getElem?_eq_getElem this] at hb
            cases hb
            have hs : j.toNat < (bs l).size := by rw [bs_size]; exact this
            rw [getElem?_pos (bs l) j.toNat hs]
            show some ((l.map UInt8.ofNat).toArray[j.toNat]'(by simpa using this)) = _
            rw [List.getElem_toArray, List.getElem_map]
          simp [hr1.1, hi, Instr.index, asIntOf, run_und hu, hj0, hget, Nat.mod_eq_of_lt hb8]
        · cases hx
      · cases hx
    · rename_i n e hu
      simp only [Option.map_eq_some_iff, Option.bind_eq_some_iff] at hc
      obtain ⟨g, hg, k, hk, rfl⟩ := hc
      simp only [xpure, Option.bind_eq_some_iff] at hx
      obtain ⟨j, hj, hx⟩ := hx
      obtain ⟨ki, hi⟩ := int_of hr2 hj
      split at hx
      · rename_i l he
        rw [he] at hr1
        split at hx
        · rename_i hcond
          obtain ⟨hj0, hj1, hle⟩ := hcond
          simp only [RepV] at hr1
          obtain ⟨cs, hv, r1, r2⟩ := hr1
          have q1 : RepL c ((l.drop (j.toNat * k)).take k) ((cs.toList.drop (j.toNat * k)).take k) := (r1.drop _).take _
          obtain ⟨p1, p2⟩ := packV_rep hx q1 (fun y hy => r2 y (List.mem_of_mem_drop (List.mem_of_mem_take hy)))
          cases g with
          | true =>
            refine ⟨_, ?_, p1 rfl⟩
            simp only [execOp]
            refine exec_v ?_
            simp only [hv, hi, Instr.index, Sem.run_bind, asIntOf, Sem.run_pure, run_und hu, Result.andThen_ok, hj0, hj1, and_self, if_true, run_tsz hk, part, run_tagg hg]
            congr 2
            apply Array.toList_inj.1
            simp [List.take_drop]
          | false =>
            obtain ⟨y', hy1, hy2⟩ := p2 rfl
            refine ⟨y', ?_, hy2⟩
            simp only [execOp]
            refine exec_v ?_
            have hget : cs[j.toNat * k]? = some y' := by
              have h0 : ((cs.toList.drop (j.toNat * k)).take k)[0]? = some y' := by rw [hy1]; rfl
              rw [List.getElem?_take] at h0
              split at h0
              · rw [List.getElem?_drop] at h0; simpa using h0
              · cases h0
            simp [hv, hi, Instr.index, asIntOf, run_und hu, hj0, hj1, run_tsz hk, part, run_tagg hg, hget]
        · cases hx
      · cases hx
    · cases hc
  case extract y n =>
    simp only [Option.map_eq_some_iff] at hc
    obtain ⟨y1, h1, rfl⟩ := hc
    have hr := compO_rep hs ht h1
    simp only [xpure] at hx
    split at hx
    · rename_i l he
      rw [he] at hr
      simp only [RepV] at hr
      obtain ⟨cs, hv, r1⟩ := hr
      obtain ⟨u, hu1, hu2⟩ := r1.get hx
      refine ⟨u, ?_, hu2⟩
      simp only [execOp]
      refine exec_v ?_
      have : cs[n]? = some u := by simpa using hu1
      simp [hv, Instr.extract, this]
    · cases hx
  case call cl =>
    unfold compCall at hc
    split at hc
    · simp only [Option.map_eq_some_iff, Option.bind_eq_some_iff] at hc
      obtain ⟨g, hg, as, has, rfl⟩ := hc
      simp [xpure] at hx
    · rename_i hb
      split at hc
      · rename_i t ht0
        have key : ∀ {as : List XO} {str : Bool}, compOs P cl.args.toList = some as → x = .bi (.len str) as → (str = true → P.underlying t = some .string) → (str = false → ∃ e, P.underlying t = some (.slice e)) →
            ∃ u, (execOp a.eval ⟨dst, .call cl, type, pos, after, guard⟩).run P c.w = .ok (.value u) c.w ∧ RepV c v u := by
          intro as str has hxx hty1 hty2
          subst hxx
          have hrl := compOs_rep (c := c) hs ht has
          cases as with
          | nil => simp [xpure] at hx
          | cons x1 as =>
            cases as with
            | cons x2 as => simp [xpure] at hx
            | nil =>
              simp only [List.map_cons, List.map_nil, RepL] at hrl
              obtain ⟨y, ys, hy, hr, hys⟩ := hrl
              subst hys
              have hargs : cl.args.map a.eval = #[y] := by apply Array.toList_inj.1; simpa using hy
              have fin : ∀ {n : Nat}, (Builtin.len_ cl.argTypes type #[y]).run P c.w = .ok (goInt n) c.w → v = .i .i64 n →
                  ∃ u, (execOp a.eval ⟨dst, .call cl, type, pos, after, guard⟩).run P c.w = .ok (.value u) c.w ∧ RepV c v u := by
                intro n hn hv
                subst hv
                exact ⟨goInt n, by simp [execOp, resolve, hb, invoke, builtin, hargs, hn], by simp [RepV, goInt]⟩
              simp only [xpure] at hx
              split at hx
              · rename_i l he
                cases hx
                rw [he] at hr
                simp only [RepV] at hr
                obtain ⟨rfl, hrb⟩ := hr
                have hsz : (bs l).size = l.length := bs_size l
                exact fin (n := l.length) (by simp [Builtin.len_, ht0, run_und (hty1 rfl), hsz]) rfl
              · rename_i k n cs he
                cases hx
                rw [he] at hr
                simp only [RepV] at hr
                obtain ⟨e, hu⟩ := hty2 rfl
                rcases hr.2 with ⟨_, rfl, rfl⟩ | ⟨b, off, cap, rfl, _⟩
                · exact fin (by simp [Builtin.len_, ht0, run_und hu]) rfl
                · exact fin (by simp [Builtin.len_, ht0, run_und hu]) rfl
              · rename_i he
                cases hx
                rw [he] at hr
                simp only [RepV] at hr
                obtain ⟨e, hu⟩ := hty2 rfl
                subst hr
                exact fin (n := 0) (by simp [Builtin.len_, ht0, run_und hu]) rfl
              · rename_i he
                cases hx
                rw [he] at hr
                simp only [RepV] at hr
                obtain ⟨e, hu⟩ := hty2 rfl
                obtain ⟨b, rfl, _⟩ := hr
                exact fin (n := 0) (by simp [Builtin.len_, ht0, run_und hu]) rfl
              · rename_i n k he
                cases hx
                rw [he] at hr
                simp only [RepV] at hr
                obtain ⟨e, hu⟩ := hty2 rfl
                obtain ⟨⟨b, cap, rfl⟩, _⟩ := hr
                exact fin (by simp [Builtin.len_, ht0, run_und hu]) rfl
              · cases hx
        split at hc
        · rename_i hu; simp only [Option.map_eq_some_iff] at hc; obtain ⟨as, has, rfl⟩ := hc; exact key has rfl (fun _ => hu) (by simp)
        · rename_i e hu; simp only [Option.map_eq_some_iff] at hc; obtain ⟨as, has, rfl⟩ := hc; exact key has rfl (by simp) (fun _ => ⟨e, hu⟩)
        · cases hc
      · cases hc
    · rename_i hb
      simp only [Option.map_eq_some_iff] at hc
      obtain ⟨as, has, rfl⟩ := hc
      have hrl := compOs_rep (c := c) hs ht has
      cases as with
      | nil => simp [xpure] at hx
      | cons x1 as =>
        simp only [xpure] at hx
        split at hx
        · rename_i k p he
          simp only [List.map_cons, RepL] at hrl
          obtain ⟨y, ys, hy, hr, hys⟩ := hrl
          rw [he] at hr
          simp only [RepV] at hr
          subst hr
          obtain ⟨u, hu1, hu2⟩ := fold_min (P := P) hx hys
          refine ⟨u, ?_, hu2⟩
          simp [execOp, resolve, hb, invoke, builtin, Builtin.min_, hy, hu1]
        · cases hx
    · rename_i hb
      simp only [Option.map_eq_some_iff] at hc
      obtain ⟨as, has, rfl⟩ := hc
      have hrl := compOs_rep (c := c) hs ht has
      cases as with
      | nil => simp [xpure] at hx
      | cons x1 as =>
        simp only [xpure] at hx
        split at hx
        · rename_i k p he
          simp only [List.map_cons, RepL] at hrl
          obtain ⟨y, ys, hy, hr, hys⟩ := hrl
          rw [he] at hr
          simp only [RepV] at hr
          subst hr
          obtain ⟨u, hu1, hu2⟩ := fold_max (P := P) hx hys
          refine ⟨u, ?_, hu2⟩
          simp [execOp, resolve, hb, invoke, builtin, Builtin.max_, hy, hu1]
        · cases hx
    · split at hc
      · split at hc
        · split at hc
          · split at hc
            · simp only [Option.map_eq_some_iff] at hc
              obtain ⟨as, has, rfl⟩ := hc
              simp [xpure] at hx
            · cases hc
          · cases hc
        · cases hc
      · cases hc
    · cases hc
  case range t y =>
    split at hc
    · simp only [Option.map_eq_some_iff] at hc
      obtain ⟨y1, h1, rfl⟩ := hc
      simp [xpure] at hx
    · cases hc
  case next y b =>
    cases b with
    | false => cases hc
    | true =>
      simp only [Option.map_eq_some_iff] at hc
      obtain ⟨y1, h1, rfl⟩ := hc
      simp [xpure] at hx
  all_goals cases hc

end
end Hb
end

section
set_option linter.unusedVariables false
set_option linter.unusedSimpArgs false
set_option linter.constructorNameAsVariable false
set_option autoImplicit false
set_option linter.unusedSimpArgs false
set_option linter.unusedVariables false
namespace Hb
open Go

section
variable {P : Prg}

theorem RepAt.same0 {c c' : Cx} (h : Ext0 c c') : ∀ {b off : Nat} {cs : List AV}, c'.w.heap[b]? = c.w.heap[b]? → RepAt c b off cs → RepAt c' b off cs
  | _, _, [], _, _ => by simp only [RepAt]
  | b, off, x :: xs, hb, hr => by
    simp only [RepAt] at hr ⊢
    obtain ⟨⟨y, h1, h1', h2⟩, h3⟩ := hr
    refine ⟨⟨y, ?_, h1', RepV.mono0 h x y h2⟩, RepAt.same0 h hb h3⟩
    rw [cell?_heap (a := ⟨b, off, none⟩) hb]
    exact h1

theorem RepAt.same {c c' : Cx} (h : Ext c c') {b off : Nat} {cs : List AV} (hb : c'.w.heap[b]? = c.w.heap[b]?) (hr : RepAt c b off cs) : RepAt c' b off cs := RepAt.same0 h.to0 hb hr

theorem RepT.mono0 {c c' : Cx} (h : Ext0 c c') {N : Nat} {ρ : Nat → AV} {tmps : Array Value} (ht : RepT c N ρ tmps) : RepT c' N ρ tmps :=
  ⟨ht.1, fun t => RepV.mono0 h _ _ (ht.2 t)⟩

theorem RepT.mono {c c' : Cx} (h : Ext c c') {N : Nat} {ρ : Nat → AV} {tmps : Array Value} (ht : RepT c N ρ tmps) : RepT c' N ρ tmps :=
  ⟨ht.1, fun t => RepV.mono h _ _ (ht.2 t)⟩

theorem BlkRep.same0 {c c' : Cx} (he : Ext0 c c') {r : Nat} {b : Blk} (hι : c'.ι r = c.ι r) (hb : b.virt = false → c'.w.heap[c.ι r]? = c.w.heap[c.ι r]?) (h : BlkRep P c r b) : BlkRep P c' r b := by
  cases b with
  | cells st virt T fz cs =>
    simp only [BlkRep] at h ⊢
    refine ⟨h.1, fun hv => ?_⟩
    obtain ⟨arr, fzr, e1, e2, e3, e4⟩ := h.2 hv
    have hb' := hb hv
    refine ⟨arr, fzr, by rw [hι, hb', e1], e2, e3, ?_⟩
    rw [hι]
    exact e4.same0 he hb'
  | loop st state pending N ρ params xa xb dr ds =>
    simp only [BlkRep] at h ⊢
    obtain ⟨l, e1, e2, e3, e5, e6, e7, e8, e9, e10, e11⟩ := h
    refine ⟨l, by rw [hι, hb rfl, e1], e2, e3, e5.mono0 he, e6, e7, e8, e9, Nat.lt_of_lt_of_le e10 he.nx, fun b hb hv => ?_⟩
    obtain ⟨blk, g1, g2, g3⟩ := he.at e10 hb
    rw [g3 (g2.trans hv)]
    exact e11 blk g1 (g2.trans hv)
  | dfr st => simp only [BlkRep] at h ⊢; rw [hι, hb rfl, h]
  | iter st s pos => simp only [BlkRep] at h ⊢; rw [hι, hb rfl]; exact h
  | map st es => exact h

theorem Sim.gen0 {c c' : Cx} (hs : Sim P c) (he : Ext0 c c') (hsz : c.n0 ≤ c'.w.heap.size)
    (h : ∀ r b', c'.σ[r]? = some (some b') →
      (c.σ[r]? = some (some b') ∧ c'.ι r = c.ι r ∧ (b'.virt = false → c'.w.heap[c.ι r]? = c.w.heap[c.ι r]?)) ∨
      (BlkRep P c' r b' ∧ b'.st < c'.nx ∧ (b'.virt = false → c'.n0 ≤ c'.ι r ∧ ∀ r2 b2, r2 ≠ r → c'.σ[r2]? = some (some b2) → b2.virt = false → c'.ι r2 ≠ c'.ι r))) : Sim P c' where
  blk r b hr := by
    rcases h r b hr with ⟨h1, h2, h3⟩ | ⟨h1, h2, _⟩
    · obtain ⟨k1, k2⟩ := hs.blk r b h1
      exact ⟨k1.same0 he h2 h3, Nat.lt_of_lt_of_le k2 he.nx⟩
    · exact ⟨h1, h2⟩
  inj r r' b b' hr hr' hv hv' hι := by
    rcases Nat.decEq r r' with hne | heq
    · exfalso
      rcases h r b hr with ⟨h1, h2, h3⟩ | ⟨_, _, h3⟩
      · rcases h r' b' hr' with ⟨k1, k2, k3⟩ | ⟨_, _, k3⟩
        · exact hne (hs.inj r r' b b' h1 k1 hv hv' (by rw [← h2, ← k2]; exact hι))
        · exact (k3 hv').2 r b hne hr hv hι
      · exact (h3 hv).2 r' b' (fun e => hne e.symm) hr' hv' hι.symm
    · exact heq
  base r b hr hv := by
    rcases h r b hr with ⟨h1, h2, h3⟩ | ⟨_, _, h3⟩
    · rw [h2, he.n0]; exact hs.base r b h1 hv
    · exact (h3 hv).1
  n0 := by rw [he.n0]; exact hsz
  glob g cs hg := by
    obtain ⟨h1, h2⟩ := hs.glob g cs hg
    exact ⟨by rw [he.n0]; exact h1, h2.same0 he (he.keep0 g h1)⟩

theorem Sim.gen {c c' : Cx} (hs : Sim P c) (he : Ext c c')
    (h : ∀ r b', c'.σ[r]? = some (some b') →
      (c.σ[r]? = some (some b') ∧ c'.ι r = c.ι r ∧ (b'.virt = false → c'.w.heap[c.ι r]? = c.w.heap[c.ι r]?)) ∨
      (BlkRep P c' r b' ∧ b'.st < c'.nx ∧ (b'.virt = false → c'.n0 ≤ c'.ι r ∧ ∀ r2 b2, r2 ≠ r → c'.σ[r2]? = some (some b2) → b2.virt = false → c'.ι r2 ≠ c'.ι r))) : Sim P c' :=
  hs.gen0 he.to0 (Nat.le_trans hs.n0 he.size) h

/-- No block of the store's lies below the ground. -/
theorem Sim.ground {c : Cx} (hs : Sim P c) {r : Nat} {b : Blk} (hr : c.σ[r]? = some (some b)) (hv : b.virt = false) {x : Nat} (hx : x < c.n0) : x ≠ c.ι r := by
  have := hs.base r b hr hv
  omega

theorem heap_alloc_lt (w : World) (o : Obj) {b : Nat} (h : b < w.heap.size) : (w.alloc o).heap[b]? = w.heap[b]? := by
  show (w.heap.push o)[b]? = _
  rw [Array.getElem?_push, if_neg (by omega)]
theorem heap_alloc_new (w : World) (o : Obj) : (w.alloc o).heap[w.heap.size]? = some o := World.alloc_heap_new w o

theorem Sim.lt {c : Cx} (hs : Sim P c) {r : Nat} {b : Blk} (h : c.σ[r]? = some (some b)) (hv : b.virt = false) : c.ι r < c.w.heap.size := by
  obtain ⟨k, _⟩ := hs.blk r b h
  have lt : ∀ {o : Obj}, c.w.heap[c.ι r]? = some o → c.ι r < c.w.heap.size := fun h => (Array.getElem?_eq_some_iff.1 h).1
  cases b with
  | cells st virt T fz cs => simp only [BlkRep] at k; obtain ⟨arr, fzr, e1, _⟩ := k.2 hv; exact lt e1
  | loop => simp only [BlkRep] at k; obtain ⟨l, e1, _⟩ := k; exact lt e1
  | dfr => simp only [BlkRep] at k; exact lt k
  | iter => simp only [BlkRep] at k; exact lt k.1
  | map => exact k.elim

def upd {α : Type} (f : Nat → α) (r : Nat) (x : α) : Nat → α := fun n => if n = r then x else f n

@[simp] theorem upd_same {α : Type} (f : Nat → α) (r : Nat) (x : α) : upd f r x r = x := by simp [upd]
theorem upd_ne {α : Type} (f : Nat → α) {r n : Nat} (x : α) (h : n ≠ r) : upd f r x n = f n := by simp [upd, h]

/-- A new block of the machine's that the store does not know. -/
def Cx.alloc (c : Cx) (o : Obj) : Cx := { c with w := c.w.alloc o }

theorem Ext.alloc (c : Cx) (o : Obj) (hs : Sim P c) : Ext c (c.alloc o) where
  keep b hb _ := heap_alloc_lt c.w o hb
  own b hb h := h
  size := by simp [Cx.alloc]
  live r blk h _ := ⟨blk, h, rfl, rfl, fun _ => rfl⟩
  nx := Nat.le_refl _
  sz b arr T fz h := ⟨arr, fz, by rw [← h]; exact heap_alloc_lt c.w o (Array.getElem?_eq_some_iff.1 h).1, rfl⟩
  os := rfl
  tape := rfl
  output := rfl
  n0 := rfl
  keep0 b hb := heap_alloc_lt c.w o (Nat.lt_of_lt_of_le hb hs.n0)

theorem Sim.alloc {c : Cx} (hs : Sim P c) (o : Obj) : Sim P (c.alloc o) :=
  hs.gen (Ext.alloc c o hs) fun r b h => .inl ⟨h, rfl, fun hv => heap_alloc_lt c.w o (hs.lt h hv)⟩

/-- A draw. -/
def Cx.drew (c : Cx) : Cx := { c with w := c.w.drew }

theorem Ext.drew (c : Cx) : Ext c c.drew where
  keep b hb _ := rfl
  own b hb h := h
  size := Nat.le_refl _
  live r blk h _ := ⟨blk, h, rfl, rfl, fun _ => rfl⟩
  nx := Nat.le_refl _
  sz b arr T fz h := ⟨arr, fz, h, rfl⟩
  os := rfl
  tape := rfl
  output := rfl
  n0 := rfl
  keep0 b hb := rfl

theorem Sim.drew {c : Cx} (hs : Sim P c) : Sim P c.drew := hs.gen (Ext.drew c) fun r b h => .inl ⟨h, rfl, fun _ => rfl⟩

/-- A new block of the machine's that the store takes in behind the others. -/
def Cx.push (c : Cx) (o : Obj) (b : Blk) : Cx := ⟨c.w.alloc o, c.σ ++ [some b], upd c.ι c.σ.length c.w.heap.size, c.nx + 1, c.n0⟩

theorem push_get {σ : Store} {b : Blk} {r : Nat} {x : Blk} (h : (σ ++ [some b])[r]? = some (some x)) : (r < σ.length ∧ σ[r]? = some (some x)) ∨ (r = σ.length ∧ x = b) := by
  rw [List.getElem?_append] at h
  split at h
  · exact .inl ⟨by assumption, h⟩
  · rename_i hr
    obtain ⟨m, rfl⟩ : ∃ m, r = σ.length + m := ⟨r - σ.length, by omega⟩
    cases m with
    | zero => simp at h; exact .inr ⟨rfl, h.symm⟩
    | succ m => simp at h

theorem lt_of_get {σ : Store} {r : Nat} {x : Option Blk} (h : σ[r]? = some x) : r < σ.length := (List.getElem?_eq_some_iff.1 h).1

theorem Ext.push {c : Cx} (hs : Sim P c) (o : Obj) (b : Blk) (hst : b.st = c.nx) : Ext c (c.push o b) where
  keep x hx _ := heap_alloc_lt c.w o hx
  own x hx h := by
    obtain ⟨r, blk, h1, h2, h3⟩ := h
    rcases push_get h1 with ⟨hr, h1⟩ | ⟨rfl, rfl⟩
    · exact ⟨r, blk, h1, h2, by rw [← h3]; simp only [Cx.push]; rw [upd_ne _ _ (by omega)]⟩
    · simp only [Cx.push, upd_same] at h3; omega
  size := by simp [Cx.push]
  live r blk h hlt := by
    rcases push_get h with ⟨hr, h1⟩ | ⟨rfl, rfl⟩
    · exact ⟨blk, h1, rfl, rfl, fun _ => by simp only [Cx.push]; rw [upd_ne _ _ (by omega)]⟩
    · omega
  nx := by simp [Cx.push]
  sz x arr T fz h := ⟨arr, fz, by rw [← h]; exact heap_alloc_lt c.w o (Array.getElem?_eq_some_iff.1 h).1, rfl⟩
  os := rfl
  tape := rfl
  output := rfl
  n0 := rfl
  keep0 b hb := heap_alloc_lt c.w o (Nat.lt_of_lt_of_le hb hs.n0)

theorem Sim.push {c : Cx} (hs : Sim P c) (o : Obj) (b : Blk) (hst : b.st = c.nx) (hb : Ext c (c.push o b) → BlkRep P (c.push o b) c.σ.length b) : Sim P (c.push o b) := by
  have he := Ext.push hs o b hst
  refine hs.gen he fun r b' h => ?_
  rcases push_get h with ⟨hr, h1⟩ | ⟨rfl, rfl⟩
  · refine .inl ⟨h1, by simp only [Cx.push]; rw [upd_ne _ _ (by omega)], fun hv => heap_alloc_lt c.w o (hs.lt h1 hv)⟩
  · refine .inr ⟨hb he, by simp [Cx.push, hst], fun hv => ⟨by simp only [Cx.push, upd_same]; exact hs.n0, fun r2 b2 hne h2 hv2 => ?_⟩⟩
    rcases push_get h2 with ⟨hr2, h2⟩ | ⟨rfl, rfl⟩
    · simp only [Cx.push, upd_same]
      rw [upd_ne _ _ (by omega)]
      have := hs.lt h2 hv2
      omega
    · exact absurd rfl hne


/-! ### A block whose cells are written -/

structure Wrote (c : Cx) (b : Nat) (w' : World) : Prop where
  other : ∀ x, x ≠ b → w'.heap[x]? = c.w.heap[x]?
  size : w'.heap.size = c.w.heap.size
  sz : ∀ (arr : Array Value) (T : TypeId) (fz : Nat × Nat), c.w.heap[b]? = some (Obj.cells arr T fz) → ∃ (arr' : Array Value) (fz' : Nat × Nat), w'.heap[b]? = some (Obj.cells arr' T fz') ∧ arr'.size = arr.size
  os : w'.os = c.w.os
  tape : w'.tape = c.w.tape
  output : w'.output = c.w.output

/-- The block r is now b', the machine's world w'. -/
def Cx.put (c : Cx) (w' : World) (r : Nat) (b' : Blk) : Cx := ⟨w', c.σ.set r (some b'), c.ι, max c.nx (b'.st + 1), c.n0⟩

theorem put_get {σ : Store} {r r' : Nat} {b x : Blk} (h : (σ.set r (some b))[r']? = some (some x)) : (r' ≠ r ∧ σ[r']? = some (some x)) ∨ (r' = r ∧ x = b) := by
  rw [List.getElem?_set] at h
  split at h
  · rename_i he; subst he
    split at h
    · cases h; exact .inr ⟨rfl, rfl⟩
    · cases h
  · rename_i hne; exact .inl ⟨fun e => hne e.symm, h⟩

theorem Ext.put {c : Cx} (hs : Sim P c) {w' : World} {r : Nat} {b b' : Blk} (hr : c.σ[r]? = some (some b)) (hv : b.virt = false) (hv' : b'.virt = false) (hw : Wrote c (c.ι r) w')
    (hst : b'.st < c.nx → b'.st = b.st) : Ext c (c.put w' r b') where
  keep x hx hn := hw.other x (fun e => hn ⟨r, b, hr, hv, e.symm⟩)
  own x hx h := by
    obtain ⟨q, blk, h1, h2, h3⟩ := h
    rcases put_get h1 with ⟨hne, h1⟩ | ⟨rfl, rfl⟩
    · exact ⟨q, blk, h1, h2, h3⟩
    · exact ⟨q, b, hr, hv, h3⟩
  size := by simp [Cx.put, hw.size]
  live q blk h hlt := by
    rcases put_get h with ⟨hne, h1⟩ | ⟨rfl, rfl⟩
    · exact ⟨blk, h1, rfl, rfl, fun _ => rfl⟩
    · exact ⟨b, hr, (hst hlt).symm, hv.trans hv'.symm, fun _ => rfl⟩
  nx := Nat.le_max_left _ _
  sz x arr T fz h := by
    rcases Nat.decEq x (c.ι r) with hne | rfl
    · exact ⟨arr, fz, by rw [← h]; exact hw.other x hne, rfl⟩
    · exact hw.sz arr T fz h
  os := hw.os
  tape := hw.tape
  output := hw.output
  n0 := rfl
  keep0 x hx := hw.other x (hs.ground hr hv hx)

theorem Sim.put {c : Cx} (hs : Sim P c) {w' : World} {r : Nat} {b b' : Blk} (hr : c.σ[r]? = some (some b)) (hv : b.virt = false) (hv' : b'.virt = false) (hw : Wrote c (c.ι r) w')
    (hst : b'.st < c.nx → b'.st = b.st) (hb : Ext c (c.put w' r b') → BlkRep P (c.put w' r b') r b') : Sim P (c.put w' r b') := by
  have he := Ext.put hs hr hv hv' hw hst
  refine hs.gen he fun q x h => ?_
  rcases put_get h with ⟨hne, h1⟩ | ⟨rfl, rfl⟩
  · exact .inl ⟨h1, rfl, fun hvx => hw.other _ (fun e => hne (hs.inj q r x b h1 hr hvx hv e))⟩
  · refine .inr ⟨hb he, by simp only [Cx.put]; omega, fun _ => ⟨hs.base q b hr hv, fun r2 b2 hne h2 hv2 e => ?_⟩⟩
    rcases put_get h2 with ⟨_, h2⟩ | ⟨rfl, _⟩
    · exact hne (hs.inj r2 q b2 b h2 hr hv2 hv e)
    · exact hne rfl

/-! ### A block of the store that gets another block of the machine's (append; the first cell of a slice that was empty) -/

def Cx.move (c : Cx) (o : Obj) (r : Nat) (b' : Blk) : Cx := ⟨c.w.alloc o, c.σ.set r (some b'), upd c.ι r c.w.heap.size, max c.nx (b'.st + 1), c.n0⟩

theorem Ext.move {c : Cx} (hs : Sim P c) {o : Obj} {r : Nat} {b' : Blk} (hst : c.nx ≤ b'.st) : Ext c (c.move o r b') where
  keep x hx hn := heap_alloc_lt c.w o hx
  own x hx h := by
    obtain ⟨q, blk, h1, h2, h3⟩ := h
    rcases put_get h1 with ⟨hne, h1⟩ | ⟨rfl, rfl⟩
    · exact ⟨q, blk, h1, h2, by rw [← h3]; simp only [Cx.move]; rw [upd_ne _ _ hne]⟩
    · simp only [Cx.move, upd_same] at h3; omega
  size := by simp [Cx.move]
  live q blk h hlt := by
    rcases put_get h with ⟨hne, h1⟩ | ⟨rfl, rfl⟩
    · exact ⟨blk, h1, rfl, rfl, fun _ => by simp only [Cx.move]; rw [upd_ne _ _ hne]⟩
    · omega
  nx := Nat.le_max_left _ _
  sz x arr T fz h := ⟨arr, fz, by rw [← h]; exact heap_alloc_lt c.w o (Array.getElem?_eq_some_iff.1 h).1, rfl⟩
  os := rfl
  tape := rfl
  output := rfl
  n0 := rfl
  keep0 b hb := heap_alloc_lt c.w o (Nat.lt_of_lt_of_le hb hs.n0)

theorem Sim.move {c : Cx} (hs : Sim P c) {o : Obj} {r : Nat} {b' : Blk} (hst : c.nx ≤ b'.st) (hb : Ext c (c.move o r b') → BlkRep P (c.move o r b') r b') : Sim P (c.move o r b') := by
  have he := Ext.move hs (o := o) (r := r) hst
  refine hs.gen he fun q x h => ?_
  rcases put_get h with ⟨hne, h1⟩ | ⟨rfl, rfl⟩
  · exact .inl ⟨h1, by simp only [Cx.move]; rw [upd_ne _ _ hne], fun hvx => heap_alloc_lt c.w o (hs.lt h1 hvx)⟩
  · refine .inr ⟨hb he, by simp only [Cx.move]; omega, fun _ => ⟨by simp only [Cx.move, upd_same]; exact hs.n0, fun r2 b2 hne h2 hv2 e => ?_⟩⟩
    rcases put_get h2 with ⟨_, h2⟩ | ⟨rfl, _⟩
    · simp only [Cx.move, upd_same] at e
      rw [upd_ne _ _ hne] at e
      have := hs.lt h2 hv2
      omega
    · exact hne rfl

/-- A block of the store that has no block of the machine's, before and behind. -/
def Cx.putV (c : Cx) (r : Nat) (b' : Blk) : Cx := ⟨c.w, c.σ.set r (some b'), c.ι, max c.nx (b'.st + 1), c.n0⟩

/-! ### Knowing less -/

/-- The store σ' knows no more than σ. -/
def Less (σ' σ : Store) : Prop := ∀ (r : Nat) (b : Blk), σ'[r]? = some (some b) → σ[r]? = some (some b)

theorem Less.refl (σ : Store) : Less σ σ := fun _ _ h => h
theorem Less.trans {a b c : Store} (h : Less a b) (k : Less b c) : Less a c := fun r x hx => k r x (h r x hx)
theorem Less.take (σ : Store) (n : Nat) : Less (σ.take n) σ := fun r b h => by
  rw [List.getElem?_take] at h
  split at h
  · exact h
  · cases h
theorem Less.kill (σ : Store) (n : Nat) : Less (σ.set n none) σ := fun r b h => by
  rw [List.getElem?_set] at h
  split at h
  · split at h <;> cases h
  · exact h

theorem Ext.less {c : Cx} {σ' : Store} (h : Less σ' c.σ) : Ext c { c with σ := σ' } where
  keep b hb _ := rfl
  own b hb ho := let ⟨r, blk, h1, h2, h3⟩ := ho; ⟨r, blk, h r blk h1, h2, h3⟩
  size := Nat.le_refl _
  live r blk hr _ := ⟨blk, h r blk hr, rfl, rfl, fun _ => rfl⟩
  nx := Nat.le_refl _
  sz b arr T fz h := ⟨arr, fz, h, rfl⟩
  os := rfl
  tape := rfl
  output := rfl
  n0 := rfl
  keep0 b hb := rfl

theorem Sim.less {c : Cx} (hs : Sim P c) {σ' : Store} (h : Less σ' c.σ) : Sim P { c with σ := σ' } :=
  hs.gen (Ext.less h) fun r b hr => .inl ⟨h r b hr, rfl, fun _ => rfl⟩

end
end Hb
end

section
set_option linter.unusedVariables false
set_option linter.unusedSimpArgs false
set_option linter.constructorNameAsVariable false
set_option autoImplicit false
set_option linter.unusedSimpArgs false
set_option linter.unusedVariables false
namespace Hb
open Go

/-! ## The abstract walk: what a piece of code comes to, in every concrete world that the abstract state stands for -/

/-- The state: the store, and the next stamp. -/
abbrev St := Store × Nat

def Cx.st (c : Cx) : St := (c.σ, c.nx)

def Fw : Option Nat → Fence
  | none => Fence.wide
  | some l => Fence.wide.inRound l

theorem Fw_fn (l : Option Nat) (f : FuncId) : (Fw l).fn f := by cases l <;> trivial
theorem Fw_round (l : Option Nat) : (Fw l).round = l := by cases l <;> rfl
theorem Fw_depth (l : Option Nat) : (Fw l).depth = none := by cases l <;> rfl
theorem Fw_room (l : Option Nat) (n : Nat) : (Fw l).room n := by intro d h; rw [Fw_depth] at h; cases h

def Env.put (ρ : Env) (d : Option Nat) (v : AV) : Env :=
  match d with
  | some t => ⟨upd ρ.f t v, ρ.d⟩
  | none => ρ

def RepDf (c : Cx) (d : List (Nat × Nat)) (l : List Deferred) : Prop :=
  d.length = l.length ∧ ∀ (i : Nat) (p : Nat × Nat), d[i]? = some p → p.2 < c.nx ∧ ∃ b, l[i]? = some ({ target := .collected b, args := #[] } : Deferred) ∧ ∀ blk, c.σ.at p.1 p.2 = some blk → blk.virt = false → b = c.ι p.1

structure RepA (c : Cx) (N : Nat) (ρ : Env) (a : Act) : Prop where
  t : RepT c N ρ.f a.tmps
  d : RepDf c ρ.d a.defers

def RdRep (c : Cx) : Option (Nat × Nat) → Option Nat → Prop
  | none, none => True
  | some p, some b => p.2 < c.nx ∧ ∀ blk, c.σ.at p.1 p.2 = some blk → blk.virt = false → b = c.ι p.1
  | _, _ => False

def XExit.rep : XExit → Exit
  | .normal => .normal
  | .exit id => .exit id
  | .ret => .ret

theorem RepDf.mono0 {c c' : Cx} (h : Ext0 c c') {d : List (Nat × Nat)} {l : List Deferred} (hd : RepDf c d l) : RepDf c' d l :=
  ⟨hd.1, fun i p hi => by
    obtain ⟨h1, b, h2, h3⟩ := hd.2 i p hi
    refine ⟨Nat.lt_of_lt_of_le h1 h.nx, b, h2, fun blk hb hv => ?_⟩
    obtain ⟨blk0, g1, g2, g3⟩ := h.at h1 hb
    rw [g3 (g2.trans hv)]
    exact h3 blk0 g1 (g2.trans hv)⟩

theorem RepDf.mono {c c' : Cx} (h : Ext c c') {d : List (Nat × Nat)} {l : List Deferred} (hd : RepDf c d l) : RepDf c' d l := RepDf.mono0 h.to0 hd

theorem RepA.mono0 {c c' : Cx} (h : Ext0 c c') {N : Nat} {ρ : Env} {a : Act} (ha : RepA c N ρ a) : RepA c' N ρ a := ⟨ha.t.mono0 h, ha.d.mono0 h⟩

theorem RepA.mono {c c' : Cx} (h : Ext c c') {N : Nat} {ρ : Env} {a : Act} (ha : RepA c N ρ a) : RepA c' N ρ a := ⟨ha.t.mono h, ha.d.mono h⟩

theorem RdRep.mono {c c' : Cx} (h : Ext c c') {rd : Option (Nat × Nat)} {l : Option Nat} (hr : RdRep c rd l) : RdRep c' rd l := by
  cases rd <;> cases l <;> simp only [RdRep] at hr ⊢
  refine ⟨Nat.lt_of_lt_of_le hr.1 h.nx, fun blk hb hv => ?_⟩
  obtain ⟨blk0, g1, g2, g3⟩ := h.at hr.1 hb
  rw [g3 (g2.trans hv)]
  exact hr.2 blk0 g1 (g2.trans hv)

theorem RepA.put {c : Cx} {N : Nat} {ρ : Env} {a : Act} (ha : RepA c N ρ a) {d : Option Nat} {v : AV} {u : Value} (hv : RepV c v u) (hd : ∀ t, d = some t → t < N) : RepA c N (ρ.put d v) (a.put d u) := by
  cases d with
  | none => exact ha
  | some t =>
    refine ⟨⟨by simp [Act.put, ha.t.1], fun n => ?_⟩, ha.d⟩
    simp only [Env.put, Act.put]
    by_cases hn : n = t
    · subst hn
      rw [upd_same]
      have : n < a.tmps.size := by rw [ha.t.1]; exact hd n rfl
      simpa [Array.getD, this] using hv
    · rw [upd_ne _ _ hn]
      have h := ha.t.2 n
      have e : (a.tmps.setIfInBounds t u).getD n undef = a.tmps.getD n undef := by
        simp only [Array.getD_eq_getD_getElem?]
        rw [Array.getElem?_setIfInBounds_ne (by omega)]
      rw [e]; exact h

section
variable (P : Prg)

/-- What holds where a piece of code is left. -/
def APost (c : Cx) (N : Nat) (Q : XExit → Env → St → Prop) (e : Exit) (a' : Act) (w' : World) : Prop :=
  ∃ (c' : Cx) (ρ' : Env) (e' : XExit), c'.w = w' ∧ Sim P c' ∧ Ext c c' ∧ RepA c' N ρ' a' ∧ e = e'.rep ∧ Q e' ρ' c'.st

def AX (N : Nat) (rd : Option (Nat × Nat)) (x : XC) (ρ : Env) (σ : St) (Q : XExit → Env → St → Prop) : Prop :=
  XOk P N x → ∀ h code, comp P N h code = some x → ∀ (c : Cx) (a : Act) (l : Option Nat), c.st = σ → Sim P c → RepA c N ρ a → RdRep c rd l → code.wpIn (Fw l) 0 P (APost P c N Q) a c.w

/-- Function f has a body. -/
def hasBody (f : FuncId) : Bool :=
  match P.funcs[f]? with
  | some fn => fn.name != "runtime.NumGoroutine" && fn.body.isSome
  | none => false

/-- A call of function f. -/
def ACall (f : FuncId) (args : List AV) (σ : St) (K : AV → St → Prop) : Prop :=
  hasBody P f = true ∧ ∀ (c : Cx) (vs : List Value), c.st = σ → Sim P c → RepL c args vs → CallsIn Fence.wide 0 P f vs.toArray c.w fun e w' =>
    ∃ (c' : Cx) (v : Value) (av : AV), e = .returned v ∧ c'.w = w' ∧ Sim P c' ∧ Ext c c' ∧ RepV c' av v ∧ K av c'.st
/-- A call of a function that has no body: the model answers it. -/
def AExt (f : FuncId) (args : List AV) (σ : St) (K : AV → St → Prop) : Prop :=
  ∀ (c : Cx) (vs : List Value), c.st = σ → Sim P c → RepL c args vs →
    ∃ (c' : Cx) (u : Value) (av : AV), (callFunc f vs.toArray).run P c.w = .ok (.value u) c'.w ∧ Sim P c' ∧ Ext c c' ∧ RepV c' av u ∧ K av c'.st
end

section
variable {P : Prg} {N : Nat} {rd : Option (Nat × Nat)} {ρ : Env} {σ : St} {Q : XExit → Env → St → Prop}

theorem AExt.mono {f : FuncId} {args : List AV} {K K' : AV → St → Prop} (h : AExt P f args σ K) (hk : ∀ v σ', K v σ' → K' v σ') : AExt P f args σ K' :=
  fun c vs h1 h2 h3 => let ⟨c', u, av, a1, a2, a3, a4, a5⟩ := h c vs h1 h2 h3; ⟨c', u, av, a1, a2, a3, a4, hk _ _ a5⟩

theorem APost.trans {c c0 : Cx} (h : Ext c0 c) {e : Exit} {a' : Act} {w' : World} (hp : APost P c N Q e a' w') : APost P c0 N Q e a' w' := by
  obtain ⟨c', ρ', e', h1, h2, h3, h4, h5, h6⟩ := hp
  exact ⟨c', ρ', e', h1, h2, h.trans h3, h4, h5, h6⟩

theorem AX.mono {x : XC} {Q' : XExit → Env → St → Prop} (h : AX P N rd x ρ σ Q) (hq : ∀ e ρ σ, Q e ρ σ → Q' e ρ σ) : AX P N rd x ρ σ Q' :=
  fun hk hh code hc c a l h1 h2 h3 h4 => wpIn_mono (h hk hh code hc c a l h1 h2 h3 h4) fun e a' w' ⟨c', ρ', e', k1, k2, k3, k4, k5, k6⟩ => ⟨c', ρ', e', k1, k2, k3, k4, k5, hq _ _ _ k6⟩

theorem ACall.mono {f : FuncId} {args : List AV} {K K' : AV → St → Prop} (h : ACall P f args σ K) (hk : ∀ v σ', K v σ' → K' v σ') : ACall P f args σ K' :=
  ⟨h.1, fun c vs h1 h2 h3 => let ⟨k1, k2⟩ := h.2 c vs h1 h2 h3
    ⟨k1, fun cs hr => let ⟨e, w', fr, ⟨c', v, av, a1, a2, a3, a4, a5, a6⟩, r2, r3⟩ := k2 cs hr; ⟨e, w', fr, ⟨c', v, av, a1, a2, a3, a4, a5, hk _ _ a6⟩, r2, r3⟩⟩⟩

/-- Less is known of the temporaries. -/
theorem AX.weak {x : XC} {ρ' : Env} (h : AX P N rd x ρ' σ Q) (hd : ρ'.d = ρ.d) (hf : ∀ t, ρ'.f t = ρ.f t ∨ ρ'.f t = .u) : AX P N rd x ρ σ Q := by
  intro hk hh code hc c a l h1 h2 h3 h4
  refine h hk hh code hc c a l h1 h2 ⟨⟨h3.t.1, fun t => ?_⟩, by rw [hd]; exact h3.d⟩ h4
  rcases hf t with e | e
  · rw [e]; exact h3.t.2 t
  · rw [e]; simp only [RepV]

/-! ### Control -/

theorem comp_skip {hn : XC} {code : Code} (h : comp P N hn code = some .skip) : code = .skip := by
  cases code with
  | region id ops dr => cases dr <;> simp [comp, Option.bind_eq_some_iff, Option.map_eq_some_iff] at h
  | skip => rfl
  | _ => simp [comp, Option.bind_eq_some_iff, Option.map_eq_some_iff] at h

theorem AX.skip (h : Q .normal ρ σ) : AX P N rd .skip ρ σ Q := by
  intro hk hh code hc c a l h1 h2 h3 h4
  rw [comp_skip hc]
  subst h1
  exact wpIn_skip ⟨c, ρ, .normal, rfl, h2, Ext.refl c, h3, rfl, h⟩

theorem comp_ret {hn : XC} {code : Code} (h : comp P N hn code = some .ret) : code = .ret := by
  cases code with
  | region id ops dr => cases dr <;> simp [comp, Option.bind_eq_some_iff, Option.map_eq_some_iff] at h
  | ret => rfl
  | _ => simp [comp, Option.bind_eq_some_iff, Option.map_eq_some_iff] at h

theorem AX.ret (h : Q .ret ρ σ) : AX P N rd .ret ρ σ Q := by
  intro hk hh code hc c a l h1 h2 h3 h4
  rw [comp_ret hc]
  subst h1
  exact wpIn_ret ⟨c, ρ, .ret, rfl, h2, Ext.refl c, h3, rfl, h⟩

theorem comp_exit {hn : XC} {code : Code} {id : Nat} (h : comp P N hn code = some (.exit id)) : code = .exit id := by
  cases code with
  | region id ops dr => cases dr <;> simp [comp, Option.bind_eq_some_iff, Option.map_eq_some_iff] at h
  | exit i => simp [comp] at h; rw [h]
  | _ => simp [comp, Option.bind_eq_some_iff, Option.map_eq_some_iff] at h

theorem AX.exit {id : Nat} (h : Q (.exit id) ρ σ) : AX P N rd (.exit id) ρ σ Q := by
  intro hk hh code hc c a l h1 h2 h3 h4
  rw [comp_exit hc]
  subst h1
  exact wpIn_exit ⟨c, ρ, .exit id, rfl, h2, Ext.refl c, h3, rfl, h⟩

theorem comp_seq {hn : XC} {code : Code} {j : Option (List Nat)} {x y : XC} (h : comp P N hn code = some (.seq j x y)) : ∃ a b ha hb, code = .seq a b ∧ comp P N ha a = some x ∧ comp P N hb b = some y := by
  cases code with
  | region id ops dr => cases dr <;> simp [comp, Option.bind_eq_some_iff, Option.map_eq_some_iff] at h
  | seq a b =>
    simp only [comp, Option.bind_eq_some_iff, Option.map_eq_some_iff] at h
    obtain ⟨x', hx, y', hy, he⟩ := h
    cases he
    exact ⟨a, b, _, _, rfl, hx, hy⟩
  | _ => simp [comp, Option.bind_eq_some_iff, Option.map_eq_some_iff] at h

/-- Behind a first piece of code: the second. -/
def Then (P : Prg) (N : Nat) (rd : Option (Nat × Nat)) (y : XC) (Q : XExit → Env → St → Prop) : XExit → Env → St → Prop
  | .normal, ρ, σ => AX P N rd y ρ σ Q
  | e, ρ, σ => Q e ρ σ

theorem AX.seq {j : Option (List Nat)} {x y : XC} (h : AX P N rd x ρ σ (Then P N rd y Q)) : AX P N rd (.seq j x y) ρ σ Q := by
  intro hk hh code hc c a l h1 h2 h3 h4
  obtain ⟨p, q, _, _, rfl, hp, hq⟩ := comp_seq hc
  refine wpIn_seq (wpIn_mono (h hk.1 _ p hp c a l h1 h2 h3 h4) ?_)
  rintro e a' w' ⟨c', ρ', e', rfl, k2, k3, k4, rfl, k6⟩
  cases e' with
  | normal => exact wpIn_mono (k6 hk.2 _ q hq c' a' l rfl k2 k4 (h4.mono k3)) fun _ _ _ hp => hp.trans k3
  | exit id => exact ⟨c', ρ', .exit id, rfl, k2, k3, k4, rfl, k6⟩
  | ret => exact ⟨c', ρ', .ret, rfl, k2, k3, k4, rfl, k6⟩

theorem comp_cond {hn : XC} {code : Code} {o : XO} {x y : XC} (h : comp P N hn code = some (.cond o x y)) : ∃ c a b ha hb, code = .cond c a b ∧ compO P c = some o ∧ comp P N ha a = some x ∧ comp P N hb b = some y := by
  cases code with
  | region id ops dr => cases dr <;> simp [comp, Option.bind_eq_some_iff, Option.map_eq_some_iff] at h
  | cond c a b =>
    simp only [comp, Option.bind_eq_some_iff, Option.map_eq_some_iff] at h
    obtain ⟨o', ho, x', hx, y', hy, he⟩ := h
    cases he
    exact ⟨c, a, b, _, _, rfl, ho, hx, hy⟩
  | _ => simp [comp, Option.bind_eq_some_iff, Option.map_eq_some_iff] at h

theorem AX.cond {o : XO} {x y : XC} {t : Bool} (ho : o.ev ρ.f = .b t) (ht : t = true → AX P N rd x ρ σ Q) (hf : t = false → AX P N rd y ρ σ Q) : AX P N rd (.cond o x y) ρ σ Q := by
  intro hk hh code hc c a l h1 h2 h3 h4
  obtain ⟨co, p, q, _, _, rfl, hco, hp, hq⟩ := comp_cond hc
  have hr := compO_rep h2 h3.t hco
  rw [ho] at hr
  simp only [RepV] at hr
  cases t with
  | true => exact wpIn_cond hr (ht rfl hk.1 _ p hp c a l h1 h2 h3 h4)
  | false => exact wpIn_cond hr (hf rfl hk.2 _ q hq c a l h1 h2 h3 h4)

theorem comp_block {hn : XC} {code : Code} {id : Nat} {x : XC} (h : comp P N hn code = some (.block id x)) : ∃ a ha, code = .block id a ∧ comp P N ha a = some x := by
  cases code with
  | region id ops dr => cases dr <;> simp [comp, Option.bind_eq_some_iff, Option.map_eq_some_iff] at h
  | block i a =>
    simp only [comp, Option.map_eq_some_iff] at h
    obtain ⟨x', hx, he⟩ := h
    cases he
    exact ⟨a, _, rfl, hx⟩
  | _ => simp [comp, Option.bind_eq_some_iff, Option.map_eq_some_iff] at h

def InBlk (id : Nat) (Q : XExit → Env → St → Prop) : XExit → Env → St → Prop
  | .exit i, ρ, σ => if i = id then Q .normal ρ σ else Q (.exit i) ρ σ
  | e, ρ, σ => Q e ρ σ

theorem AX.block {id : Nat} {x : XC} (h : AX P N rd x ρ σ (InBlk id Q)) : AX P N rd (.block id x) ρ σ Q := by
  intro hk hh code hc c a l h1 h2 h3 h4
  obtain ⟨p, _, rfl, hp⟩ := comp_block hc
  refine wpIn_block (wpIn_mono (h hk _ p hp c a l h1 h2 h3 h4) ?_)
  rintro e a' w' ⟨c', ρ', e', rfl, k2, k3, k4, rfl, k6⟩
  cases e' with
  | normal => exact ⟨c', ρ', .normal, rfl, k2, k3, k4, rfl, k6⟩
  | exit i =>
    simp only [XExit.rep, Exit.inBlock]
    simp only [InBlk] at k6
    split
    · rename_i hi; rw [if_pos hi] at k6; exact ⟨c', ρ', .normal, rfl, k2, k3, k4, rfl, k6⟩
    · rename_i hi; rw [if_neg hi] at k6; exact ⟨c', ρ', .exit i, rfl, k2, k3, k4, rfl, k6⟩
  | ret => exact ⟨c', ρ', .ret, rfl, k2, k3, k4, rfl, k6⟩

theorem comp_loop {hn : XC} {code : Code} {A : List Nat} {x : XC} (h : comp P N hn code = some (.loop A x)) : ∃ a ha, code = .loop a ∧ comp P N ha a = some x := by
  cases code with
  | region id ops dr => cases dr <;> simp [comp, Option.bind_eq_some_iff, Option.map_eq_some_iff] at h
  | loop a =>
    simp only [comp, Option.map_eq_some_iff] at h
    obtain ⟨x', hx, he⟩ := h
    cases he
    exact ⟨a, _, rfl, hx⟩
  | _ => simp [comp, Option.bind_eq_some_iff, Option.map_eq_some_iff] at h

/-- A loop at the head of a round. -/
def LoopW (F : Fence) (n : Nat) (P : Prg) (c : Code) (R : Exit → Act → World → Prop) (a : Act) (w : World) : Prop :=
  ∀ (b : Frame) (k : List Item) (cs : List Frame), b.roundOf = F.round → F.fn b.fn → F.room (cs.length + 1 + n) →
    ∃ e a' w', R e a' w' ∧ ArrivesIn (Machine.fenced P F) P (lone (b.atR a (.code c :: .inLoop c :: k)) cs w) b k cs e a' w'

theorem wpIn_of_LoopW {F : Fence} {n : Nat} {c : Code} {R : Exit → Act → World → Prop} {a : Act} {w : World} (h : LoopW F n P c R a w) : (Code.loop c).wpIn F n P R a w := by
  intro b k cs hro hb hr
  obtain ⟨e, a', w', hq, harr⟩ := h b k cs hro hb hr
  exact ⟨e, a', w', hq, .of_steps (.one (fenced_calm hb hr rfl) stepR_loop) harr⟩

theorem LoopW_of {F : Fence} {n : Nat} {c : Code} {R : Exit → Act → World → Prop} {a : Act} {w : World} (h : c.wpIn F n P (Exit.then (fun a' w' => LoopW F n P c R a' w') R) a w) : LoopW F n P c R a w := by
  intro b k cs hro hb hr
  obtain ⟨e, a₁, w₁, hq, harr⟩ := h b (.inLoop c :: k) cs hro hb hr
  cases e with
  | normal =>
    obtain ⟨e₂, a₂, w₂, hq₂, harr₂⟩ := hq b k cs hro hb hr
    exact ⟨e₂, a₂, w₂, hq₂, .of_steps (StepsIn.trans harr (.one (fenced_calm hb hr rfl) stepR_inLoop)) harr₂⟩
  | exit id => exact ⟨_, a₁, w₁, hq, .pass (x := .inLoop c) rfl (fun _ _ => .inl (by simp)) harr⟩
  | goto l => exact ⟨_, a₁, w₁, hq, .pass (x := .inLoop c) rfl (fun _ _ => .inl (by simp)) harr⟩
  | ret => exact ⟨_, a₁, w₁, hq, .pass (x := .inLoop c) rfl (fun _ _ => .inl (by simp)) harr⟩
  | panic ch => exact ⟨_, a₁, w₁, hq, .pass (x := .inLoop c) rfl (fun _ _ => .inl (by simp)) harr⟩
  | outgrown => exact ⟨_, a₁, w₁, hq, .pass (x := .inLoop c) rfl (fun _ _ => .inl (by simp)) harr⟩

/-- The loop with body x, at the head of a round. -/
def ALoop (P : Prg) (N : Nat) (rd : Option (Nat × Nat)) (x : XC) (ρ : Env) (σ : St) (Q : XExit → Env → St → Prop) : Prop :=
  XOk P N x → ∀ h code, comp P N h code = some x → ∀ (c : Cx) (a : Act) (l : Option Nat), c.st = σ → Sim P c → RepA c N ρ a → RdRep c rd l → LoopW (Fw l) 0 P code (APost P c N Q) a c.w

def LoopQ (P : Prg) (N : Nat) (rd : Option (Nat × Nat)) (x : XC) (Q : XExit → Env → St → Prop) : XExit → Env → St → Prop
  | .normal, ρ, σ => ALoop P N rd x ρ σ Q
  | e, ρ, σ => Q e ρ σ

theorem AX.loop {A : List Nat} {x : XC} (h : ALoop P N rd x ρ σ Q) : AX P N rd (.loop A x) ρ σ Q := by
  intro hk hh code hc c a l h1 h2 h3 h4
  obtain ⟨p, _, rfl, hp⟩ := comp_loop hc
  exact wpIn_of_LoopW (h hk _ p hp c a l h1 h2 h3 h4)

theorem ALoop.of {x : XC} (h : AX P N rd x ρ σ (LoopQ P N rd x Q)) : ALoop P N rd x ρ σ Q := by
  intro hk hh code hc c a l h1 h2 h3 h4
  refine LoopW_of (wpIn_mono (h hk _ code hc c a l h1 h2 h3 h4) ?_)
  rintro e a' w' ⟨c', ρ', e', rfl, k2, k3, k4, rfl, k6⟩
  cases e' with
  | normal =>
    intro b k cs hro hb hr
    obtain ⟨e2, a2, w2, q2, r2⟩ := k6 hk _ code hc c' a' l rfl k2 k4 (h4.mono k3) b k cs hro hb hr
    exact ⟨e2, a2, w2, q2.trans k3, r2⟩
  | exit id => exact ⟨c', ρ', .exit id, rfl, k2, k3, k4, rfl, k6⟩
  | ret => exact ⟨c', ρ', .ret, rfl, k2, k3, k4, rfl, k6⟩

end
end Hb
end

section
set_option linter.unusedVariables false
set_option linter.unusedSimpArgs false
set_option linter.constructorNameAsVariable false
set_option autoImplicit false
set_option linter.unusedSimpArgs false
set_option linter.unusedVariables false
namespace Hb
open Go

def XOp.isCall : XOp → Bool
  | .call _ _ => true
  | _ => false

def storeAt (σ : Store) (a : AV) (n : Nat) (cs : List AV) : Option Store :=
  match a with
  | .p r st k i o => match σ.at r st with
    | some (.cells st' false T fz old) =>
      if cs.length = n ∧ o + n ≤ k ∧ (i + 1) * k ≤ old.length ∧ fz ≤ i * k + o then some (σ.set r (some (.cells st' false T fz (replaceAt old (i * k + o) cs)))) else none
    | _ => none
  | _ => none

/-- The cells that a slice's value has, of elements of k cells. -/
def cellsOfSlice (σ : Store) (k : Nat) : AV → Option (Nat × List AV)
  | .sl k' n cs => if k' = k then some (n, cs) else none
  | .ns => some (0, [])
  | .sz => some (0, [])
  | .gr r st i n k' => if k' = k then (match σ.at r st with
      | some (.cells _ true _ _ _) => some (0, [])
      | some (.cells _ false _ _ cs) => if i * k + n * k ≤ cs.length then some (n, (cs.drop (i * k)).take (n * k)) else none
      | _ => none) else none
  | _ => none

/-- append(x, y...): to what slice and store it comes, the new stamp given. -/
def xappend (σ : Store) (T k : Nat) (x : AV) (m : Nat) (new : List AV) (s : Nat) : Option (AV × St) :=
  if 1048576 < m then none else
  match x with
  | .ns => some (.gr σ.length s 0 m k, σ ++ [some (.cells s (decide (m = 0)) T 0 new)], s + 1)
  | .sz => some (.gr σ.length s 0 m k, σ ++ [some (.cells s (decide (m = 0)) T 0 new)], s + 1)
  | .sl k' n cs => if k' = k ∧ n ≤ 1048576 then
      (if m = 0 then some (.sl k' n cs, σ, s) else some (.gr σ.length s 0 (n + m) k, σ ++ [some (.cells s false T 0 (cs ++ new))], s + 1)) else none
  | .gr r st i n k' =>
    if k' = k ∧ i = 0 ∧ n ≤ 1048576 then
      match σ.at r st with
      | some (.cells _ true _ _ _) => if m = 0 then some (.gr r st i n k', σ, s) else some (.gr r s 0 m k, σ.set r (some (.cells s false T 0 new)), s + 1)
      | some (.cells _ false T' fz old) => if m = 0 then some (.gr r st i n k', σ, s) else
          if T' = T ∧ n * k ≤ old.length ∧ fz ≤ n * k then some (.gr r s 0 (n + m) k, σ.set r (some (.cells s false T fz (old.take (n * k) ++ new))), s + 1) else none
      | _ => none
    else none
  | _ => none

def putAll (ρ : Nat → AV) : List Nat → List AV → Nat → AV
  | p :: ps, a :: as => putAll (upd ρ p a) ps as
  | _, _ => ρ

section
variable (P : Prg)

/-- Behind a round's body. -/
def RoundEnd (r st : Nat) (K : AV → St → Prop) (e : XExit) (ρ : Env) (σ : St) : Prop :=
  match σ.1.at r st with
  | some (.loop _ _ _ N ρl ps xa xb dr ds) => match e with
    | .normal => K (.b true) (σ.1.set r (some (.loop st .ready none N ρl ps xa xb dr ds)), σ.2)
    | e => K (.b false) (σ.1.set r (some (.loop st .done (some e) N ρl ps xa xb dr ds)), σ.2)
  | _ => False

/-- Behind a round's assignments. -/
def RoundMid (r st N0 : Nat) (xb0 : XC) (K : AV → St → Prop) (e : XExit) (ρ : Env) (σ : St) : Prop :=
  match e, σ.1.at r st with
  | .normal, some (.loop _ .ready pe N ρl ps xa xb dr ds) => AX P N0 (some (r, st)) xb0.un ρ (σ.1.set r (some (.loop st .busy pe N ρl ps xa xb dr ds)), σ.2) (RoundEnd r st K)
  | _, _ => False

/-- A round of a range over a function. -/
def ARound (r st : Nat) (args : List AV) (σ : St) (K : AV → St → Prop) : Prop :=
  match σ.1.at r st with
  | some (.loop _ .ready _ N ρl ps xa xb _ _) => args.length = ps.length ∧ (XOk P N xa → XOk P N xb → AX P N (some (r, st)) xa.un ⟨putAll ρl ps args, []⟩ σ (RoundMid P r st N xb K))
  | _ => False

def XStep (x : XOp) (ρ : Nat → AV) (σ : St) (K : AV → St → Prop) : Prop :=
  match x with
  | .alloc T z => K (.p σ.1.length σ.2 z.length 0 0) (σ.1 ++ [some (.cells σ.2 false T 0 z)], σ.2 + 1)
  | .box T _ x => match (x.ev ρ).cells with
    | some cs => K (.p σ.1.length σ.2 cs.length 0 0) (σ.1 ++ [some (.cells σ.2 false T 0 cs)], σ.2 + 1)
    | none => False
  | .lit T k n z ps => match fillA ρ z ps with
    | some cs => K (.gr σ.1.length σ.2 0 n k) (σ.1 ++ [some (.cells σ.2 false T 0 cs)], σ.2 + 1)
    | none => False
  | .store n a x => match (x.ev ρ).cells with
    | some cs => match storeAt σ.1 (a.ev ρ) n cs with
      | some σ' => K (.tup []) (σ', σ.2)
      | none => False
    | none => False
  | .mksl T k z len cap => match len.ev ρ, cap.ev ρ with
    | .i .i64 l, .i .i64 c => 0 ≤ l ∧ l ≤ c ∧ c ≤ 1048576 ∧ K (.gr σ.1.length σ.2 0 l.toNat k) (σ.1 ++ [some (.cells σ.2 false T 0 ((List.range (c.toNat * k)).map fun j => (z[j % z.length]?).getD .u))], σ.2 + 1)
    | _, _ => False
  | .conv (.s2b T) x => match x.ev ρ with
    | .s l => K (.gr σ.1.length σ.2 0 l.length 1) (σ.1 ++ [some (.cells σ.2 false T 0 (l.map fun (b : Nat) => .i .u8 b))], σ.2 + 1)
    | _ => False
  | .bi (.append T k z) [x, y] => match cellsOfSlice σ.1 k (y.ev ρ) with
    | some (m, new) => match xappend σ.1 T k (x.ev ρ) m new σ.2 with
      | some (v, σ') => K v σ'
      | none => False
    | none => False
  | .call f args => match f.ev ρ with
    | .fn (.func g) first cap => ACall P g (first ++ (args.map (XO.ev ρ)) ++ cap) σ K ∨ AExt P g (first ++ (args.map (XO.ev ρ)) ++ cap) σ K
    | .fy r st => ARound P r st (args.map (XO.ev ρ)) σ K
    | _ => False
  | .rng x => match x.ev ρ with
    | .s l => K (.it σ.1.length σ.2) (σ.1 ++ [some (.iter σ.2 l 0)], σ.2 + 1)
    | _ => False
  | .next x => match x.ev ρ with
    | .it r st => match σ.1.at r st with
      | some (.iter st' l pos) => if pos < l.length then
          K (.tup [.b true, .i .i64 pos, .i .i32 (Utf8.decode (bs l) pos).1]) (σ.1.set r (some (.iter st' l (pos + (Utf8.decode (bs l) pos).2))), σ.2) else K (.tup [.b false]) σ
      | _ => False
    | _ => False
  | x => match xpure σ.1 ρ x with
    | some v => K v σ
    | none => False

end

section
variable {P : Prg} {c : Cx} {N : Nat} {ρ : Nat → AV} {a : Act} {K : AV → St → Prop}

/-- What an operation that calls no function of the program's comes to. -/
def Stepped1 (P : Prg) (c : Cx) (s : Sem Next) (K : AV → St → Prop) : Prop :=
  ∃ (c' : Cx) (nx : Next) (v : AV), s.run P c.w = .ok nx c'.w ∧ ((∃ u, nx = .value u ∧ RepV c' v u) ∨ (nx = .skip ∧ v = .tup [])) ∧ Sim P c' ∧ Ext c c' ∧ K v c'.st

theorem repAt_heap {c : Cx} {b : Nat} {arr : Array Value} {T : TypeId} {fz : Nat × Nat} {cs : List AV} {off : Nat} (h : c.w.heap[b]? = some (.cells arr T fz))
    (hr : RepL c cs ((arr.toList.drop off).take cs.length)) (h1 : ∀ y ∈ (arr.toList.drop off).take cs.length, y.oneCell' = true) : RepAt c b off cs := by
  refine RepAt.of_vals hr (fun j y hj => ?_) h1
  rw [List.getElem?_take] at hj
  split at hj
  · rw [List.getElem?_drop] at hj
    simp [World.cell?, h]
    simpa using hj
  · cases hj

theorem repAt_heap0 {c : Cx} {b : Nat} {arr : Array Value} {T : TypeId} {fz : Nat × Nat} {cs : List AV} (h : c.w.heap[b]? = some (.cells arr T fz))
    (hr : RepL c cs arr.toList) (h1 : ∀ y ∈ arr.toList, y.oneCell' = true) : RepAt c b 0 cs := by
  have e : (arr.toList.drop 0).take cs.length = arr.toList := by rw [List.drop_zero, hr.length, List.take_length]
  exact repAt_heap h (by rw [e]; exact hr) (by rw [e]; exact h1)

theorem fzOk_zero (k n : Nat) : fzOk (0, 0) k n := by intro j _ _; omega

/-- A new variable's block. -/
theorem new_var (hs : Sim P c) {T : TypeId} {arr : Array Value} {cs : List AV} {k : Nat} (hr : RepL c cs arr.toList) (h1 : ∀ y ∈ arr.toList, y.oneCell' = true) :
    ∃ c' : Cx, c'.w = c.w.alloc (.cells arr T) ∧ c'.st = (c.σ ++ [some (.cells c.nx false T 0 cs)], c.nx + 1) ∧ Sim P c' ∧ Ext c c' ∧
      RepV c' (.p c.σ.length c.nx k 0 0) (.pointer (some ⟨c.w.heap.size, 0, none⟩)) := by
  have hst : (Blk.cells c.nx false T 0 cs).st = c.nx := rfl
  refine ⟨c.push (.cells arr T) (.cells c.nx false T 0 cs), rfl, rfl, ?_, Ext.push hs _ _ hst, ?_⟩
  · refine Sim.push hs _ _ hst fun he => ?_
    simp only [BlkRep]
    have hh : (c.push (.cells arr T) (.cells c.nx false T 0 cs)).w.heap[(c.push (.cells arr T) (.cells c.nx false T 0 cs)).ι c.σ.length]? = some (.cells arr T (0, 0)) := by
      simp only [Cx.push, upd_same]
      exact heap_alloc_new c.w _
    refine ⟨fun h => (by cases h), fun _ => ⟨arr, (0, 0), hh, fzOk_zero _ _, ?_, ?_⟩⟩
    · rw [hr.length, Array.length_toList]; exact Nat.le_refl _
    · exact repAt_heap0 hh (RepL.mono he _ _ hr) h1
  · simp only [RepV]
    refine ⟨⟨_, rfl⟩, by simp [Cx.push], fun blk hb hv => ?_⟩
    simp [Cx.push]

theorem step_alloc {T : TypeId} {z : List AV} (hs : Sim P c) (hz : tzero P T = some z) (h : K (.p c.σ.length c.nx z.length 0 0) (c.σ ++ [some (.cells c.nx false T 0 z)], c.nx + 1)) :
    Stepped1 P c (do pure (.value (← Instr.alloc T true (.tuple #[])))) K := by
  obtain ⟨zv, h1, h2⟩ := run_tzero hz c.w
  obtain ⟨r1, r2⟩ := litL_rep (c := c) h2
  obtain ⟨c', e1, e2, e3, e4, e5⟩ := new_var (P := P) (k := z.length) (T := T) hs r1 r2
  refine ⟨c', _, _, ?_, .inl ⟨_, rfl, e5⟩, e3, e4, by rw [e2]; exact h⟩
  simp [Instr.alloc, h1, newVar, newRow, e1]

theorem step_box {T : TypeId} {x : AV} {u : Value} {cs : List AV} (hs : Sim P c) (hx : RepV c x u) (hcs : x.cells = some cs) (h : K (.p c.σ.length c.nx cs.length 0 0) (c.σ ++ [some (.cells c.nx false T 0 cs)], c.nx + 1)) :
    Stepped1 P c (do pure (.value (← Instr.box T u))) K := by
  obtain ⟨r1, r2⟩ := RepV.cells hcs hx
  obtain ⟨c', e1, e2, e3, e4, e5⟩ := new_var (P := P) (k := cs.length) (T := T) hs r1 r2
  refine ⟨c', _, _, ?_, .inl ⟨_, rfl, e5⟩, e3, e4, by rw [e2]; exact h⟩
  simp [Instr.box, newVar, newRow, e1]

end
end Hb
end
