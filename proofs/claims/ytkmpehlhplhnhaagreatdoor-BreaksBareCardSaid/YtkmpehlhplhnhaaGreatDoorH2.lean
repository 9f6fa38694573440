/- A layer for programs of small data: values, stores, code, and an evaluator of code that the kernel runs; part 2. -/
import Derived.Test.YtkmpehlhplhnhaaGreatDoorH1
import Derived.Laws.BytesString
import Derived.Lib.UnsafeStr
import Derived.LaidEqlPtr
import Derived.Lib.Builder
import Derived.MapKept

section
set_option linter.unusedVariables false
set_option linter.unusedSimpArgs false
set_option linter.constructorNameAsVariable false
set_option autoImplicit false
set_option linter.unusedSimpArgs false
set_option linter.unusedVariables false
namespace Hb
open Go
section
variable {P : Prg} {c : Cx} {N : Nat} {ρ : Nat → AV} {a : Act}
theorem exec_v {s : Sem Value} {u : Value} {w : World} (h : s.run P w = .ok u w) : ((do pure (.value (← s)) : Sem Next)).run P w = .ok (.value u) w := by
  simp [h]
theorem RepV.p_live {r st k i o : Nat} {u : Value} (h : RepV c (.p r st k i o) u) (hl : c.σ.live r st = true) : u = .pointer (some ⟨(c.loc r).1, (c.loc r).2 + (i * k + o), none⟩) := by
  obtain ⟨b, hb, hv⟩ := live_of hl
  simp only [RepV] at h
  exact h.2.2 b hb hv
theorem xeqS_sound {k : XEq} {x y : AV} {b : Bool} {u z : Value} {t : TypeId} (h : xeqS c.σ k x y = some b) (hx : RepV c x u) (hy : RepV c y z) (ht : eqType P t k) (w : World) :
    plainV u = true ∧ (binOp .eql t u z).run P w = .ok (.bool b) w ∧ (binOp .neq t u z).run P w = .ok (.bool (!b)) w := by
  unfold xeqS at h
  split at h
  · split at h
    · rename_i hl
      cases h
      have hu := hx.p_live hl
      simp only [RepV] at hy
      subst hu hy
      obtain ⟨_, _, ht, _⟩ := ht
      exact equal_of (fun d => by simp [Op.equalIn, run_und ht]) (by simp) rfl (by simp) (by simp) (by simp)
    · cases h
  · split at h
    · rename_i hl
      cases h
      have hu := hy.p_live hl
      simp only [RepV] at hx
      subst hu hx
      obtain ⟨_, _, ht, _⟩ := ht
      exact equal_of (fun d => by simp [Op.equalIn, run_und ht]) (by simp) rfl (by simp) (by simp) (by simp)
    · cases h
  · split at h
    · rename_i hl
      obtain ⟨hl, rfl, rfl, ho⟩ := hl
      cases h
      have hu := hx.p_live hl
      have hz := hy.p_live hl
      rw [← ho] at hz
      subst hu hz
      obtain ⟨e, n, ht, hn⟩ := ht
      refine equal_of (fun d => ?_) (by simp) rfl (by simp) (by simp) (by simp)
      by_cases h0 : n = 0
      · simp [Op.equalIn, run_und ht, run_tsz hn, h0]
      · simp [Op.equalIn, run_und ht, run_tsz hn, h0, run_sameAddr_same]
    · cases h
  · split at h
    · rename_i hl
      cases h
      simp only [RepV] at hx hy
      obtain ⟨bl, hbl, hvirt⟩ := live_of hl
      obtain ⟨off, cap, arr, T, fz, rfl, _⟩ := (hx.2.2 bl hbl).2 hvirt
      subst hy
      obtain ⟨e, ht⟩ := ht
      exact equal_of (fun d => by simp [Op.equalIn, run_und ht]) (by simp) rfl (by simp) (by simp) (by simp)
    · cases h
  · split at h
    · rename_i hl
      cases h
      simp only [RepV] at hx hy
      obtain ⟨bl, hbl, hvirt⟩ := live_of hl
      have hu := hx.2.2 bl hbl hvirt
      subst hu hy
      obtain ⟨_, _, ht⟩ := ht
      exact equal_of (fun d => by simp [Op.equalIn, run_und ht]) (by simp) rfl (by simp) (by simp) (by simp)
    · cases h
  · simp only [RepV] at hx hy
    obtain ⟨v1, rfl, r1⟩ := hx
    obtain ⟨v2, rfl, r2⟩ := hy
    obtain ⟨⟨ms, hu⟩, hL⟩ := ht
    unfold eqIfi at h
    split at h
    · rename_i he
      subst he
      split at h
      · rename_i k a k' b'
        split at h
        · rename_i hc
          obtain ⟨hm, rfl⟩ := hc
          cases h
          simp only [RepV] at r1 r2
          subst r1 r2
          obtain ⟨hn, i, hi, hcmp⟩ := hL _ (by simpa using hm)
          obtain ⟨κ, hκ⟩ := isInt_und hn
          refine equal_of1 ?_ (by simp) rfl (by simp) (by simp) (by simp)
          have h1 := run_equalIn_int (P := P.toProgram) w 9998 _ k κ a b' hκ
          have h3 : (a == b') = decide (a = b') := by by_cases h : a = b' <;> simp [h]
          show (Op.equalIn (9998 + 1 + 1) t _ _).run P w = _
          rw [Op.equalIn, ← h3]
          simp only [Sem.run_bind, run_und hu, Result.andThen_ok, ne_eq, not_true_eq_false, if_false, run_tinfo hi, hcmp, Bool.not_true, Bool.false_eq_true]
          exact h1
        · cases h
      · cases h
    · rename_i he
      cases h
      exact equal_of (fun d => by simp [Op.equalIn, run_und hu, he]) (by simp) rfl (by simp) (by simp) (by simp)
  · exact ht.elim
  · exact xeq_sound h hx hy ht w
theorem live_of_cells {σ : Store} {r st : Nat} {cs : List AV} (h : σ.cells r st = some cs) : σ.live r st = true := by
  obtain ⟨st', T, fz, hb⟩ := cells_of h
  unfold Store.live
  rw [hb]; rfl
theorem live_of_cells' {σ : Store} {r st : Nat} {cs : List AV} (h : σ.cells r st = some cs) : ∃ st' T fz, σ.at r st = some (.cells st' false T fz cs) := by
  unfold Store.cells at h
  split at h
  · rename_i h1
    cases h
    exact ⟨_, _, _, h1⟩
  · cases h
theorem bounds_sound {lo hi : Option Operand} {xlo xhi : Option XO} {len : Nat} {l h : Nat} (hs : Sim P c) (ht : RepT c N ρ a.tmps) (h1 : compOpt P lo = some xlo) (h2 : compOpt P hi = some xhi)
    (hb : xbounds ρ len xlo xhi = some (l, h)) (sl : Bool) (cap : Nat) (hcap : len ≤ cap) (hne : sl = false → cap = len) :
    (Instr.sliceBounds sl len cap (lo.map a.eval) (hi.map a.eval) none).run P c.w = .ok (l, h, cap) c.w ∧ l ≤ h ∧ h ≤ len := by
  unfold xbounds at hb
  simp only [Option.bind_eq_some_iff, Option.map_eq_some_iff, Prod.mk.injEq] at hb
  obtain ⟨h', hh, l', hl, rfl, rfl⟩ := hb
  have key : ∀ {o : Option Operand} {xo : Option XO} {lim d r : Nat} (lim' : Nat), compOpt P o = some xo → (match xo with
      | none => some d
      | some x => (xidx (x.ev ρ)).bind fun n => if 0 ≤ n ∧ n ≤ (lim : Int) then some n.toNat else none) = some r → lim ≤ lim' →
      (o = none ∧ r = d) ∨ (∃ x k n, o = some x ∧ a.eval x = .int k n ∧ n.toNat = r ∧ 0 ≤ n ∧ n ≤ (lim : Int)) := by
    intro o xo lim d r lim' hc hr hle
    cases o with
    | none => simp only [compOpt, Option.some.injEq] at hc; subst hc; simp at hr; exact .inl ⟨rfl, hr.symm⟩
    | some x =>
      simp only [compOpt, Option.map_eq_some_iff] at hc
      obtain ⟨y, hy, rfl⟩ := hc
      simp only [Option.bind_eq_some_iff] at hr
      obtain ⟨n, hn, hr⟩ := hr
      split at hr
      · rename_i hb
        cases hr
        obtain ⟨k, hk⟩ := int_of (compO_rep hs ht hy) hn
        exact .inr ⟨x, k, n, rfl, hk, rfl, hb.1, hb.2⟩
      · cases hr
  have k1 := key cap h2 hh hcap
  have k2 := key h' h1 hl (Nat.le_refl _)
  rcases k1 with ⟨rfl, rfl⟩ | ⟨x, k, n, rfl, e1, rfl, e2, e3⟩ <;> rcases k2 with ⟨rfl, rfl⟩ | ⟨y, k', n', rfl, f1, rfl, f2, f3⟩ <;>
    simp_all [Instr.sliceBounds, Instr.sliceBound, asIntOf] <;> (try split) <;> (try simp_all) <;> omega
theorem fold_push : ∀ (ns : List Int) (s : ByteArray), ns.foldl (fun r n => r.push (UInt8.ofNat n.toNat)) s = ⟨(s.data.toList ++ ns.map fun n => UInt8.ofNat n.toNat).toArray⟩
  | [], s => by simp
  | n :: ns, s => by
    simp only [List.foldl_cons, fold_push ns]
    apply ByteArray.ext
    simp
theorem bytes_sound {b off n cap : Nat} {cs : List AV} {l : List Nat} (h : RepAt c b off cs) (hl : bytesOf cs = some l) (hn : cs.length = n) :
    (Conv.bytesToString (.slice (some ⟨b, off, none⟩) n cap)).run P c.w = .ok (.string (bs l)) c.w ∧ ∀ x ∈ l, x < 256 := by
  obtain ⟨ys, h1, h2, h3⟩ := run_loadRep (P := P) h
  obtain ⟨ns, rfl, rfl⟩ := bytesOf_rep hl h2
  rw [hn] at h1
  rw [run_bytesToString c.w _ _ _ ns h1, fold_push]
  constructor
  · congr 2
    simp only [bs, ByteArray.data_empty, List.nil_append, List.map_map]
    congr 2
    apply List.map_congr_left
    intro n _
    simp only [Function.comp]
    apply UInt8.toNat_inj.1
    simp
  · intro x hx
    simp only [List.mem_map] at hx
    obtain ⟨n, _, rfl⟩ := hx
    omega
theorem xconv_b2s {v r : AV} {u : Value} (hs : Sim P c) (h : xconv c.σ .b2s v = some r) (hv : RepV c v u) :
    ∃ l : List Nat, r = .s l ∧ ((Conv.bytesToString u).run P c.w = .ok (.string (bs l)) c.w ∧ ∀ x ∈ l, x < 256) ∧ ∃ a n m, u = .slice a n m := by
  simp only [xconv] at h
  split at h
  · rename_i k n cs
    split at h
    · rename_i hk
      subst hk
      simp only [Option.map_eq_some_iff] at h
      obtain ⟨l, hl, rfl⟩ := h
      simp only [RepV] at hv
      obtain ⟨h0, hv⟩ := hv
      rcases hv with ⟨rfl, rfl, rfl⟩ | ⟨b, off, cap, rfl, _, _, hat⟩
      · simp [bytesOf] at hl; subst hl
        exact ⟨[], rfl, by simp [Conv.bytesToString]; rfl, _, _, _, rfl⟩
      · exact ⟨l, rfl, bytes_sound hat hl (by omega), _, _, _, rfl⟩
    · cases h
  · cases h
    simp only [RepV] at hv
    subst hv
    exact ⟨[], rfl, by simp [Conv.bytesToString]; rfl, _, _, _, rfl⟩
  · rename_i r' st i n k
    split at h
    · rename_i hk
      subst hk
      simp only [Option.bind_eq_some_iff] at h
      obtain ⟨cs, hcs, h⟩ := h
      split at h
      · rename_i hle
        simp only [Option.map_eq_some_iff] at h
        obtain ⟨l, hl, rfl⟩ := h
        obtain ⟨arr, T, fzr, fz, e1, e2, e3, e4, st', e5⟩ := hs.cells hcs
        simp only [RepV] at hv
        obtain ⟨off, cap, arr', T', fz', q1, q2, q3, q4⟩ := (hv.2.2 _ e5).2 rfl
        subst q1
        have hat := (e4.drop i).take n
        by_cases h0 : cap = 0
        · have hn0 : n = 0 := by omega
          subst hn0
          simp [bytesOf] at hl; subst hl
          exact ⟨[], rfl, bytes_sound (cs := []) (by simp only [RepAt]) rfl rfl, _, _, _, rfl⟩
        · obtain ⟨w1, w2⟩ := q4 h0
          rw [Nat.mul_one] at w1
          subst w1
          exact ⟨l, rfl, bytes_sound hat hl (by simp; omega), _, _, _, rfl⟩
      · cases h
    · cases h
  · cases h
theorem opt_none {o : Option Operand} (h : compOpt P o = some none) : o = none := by
  cases o with
  | none => rfl
  | some x => simp only [compOpt, Option.map_eq_some_iff] at h; obtain ⟨q, _, hq⟩ := h; cases hq
theorem opt_some {o : Option Operand} {y : XO} (h : compOpt P o = some (some y)) : ∃ x, o = some x ∧ compO P x = some y := by
  cases o with
  | none => simp [compOpt] at h
  | some x => simp only [compOpt, Option.map_eq_some_iff, Option.some.injEq] at h; obtain ⟨q, h1, rfl⟩ := h; exact ⟨x, rfl, h1⟩
theorem xlsl_sound {t e : TypeId} {k : Nat} {lo hi mx : Option Operand} {lo1 hi1 mx1 : Option XO} {v r : AV} {u : Value} (hs : Sim P c) (ht : RepT c N ρ a.tmps)
    (hu : P.underlying t = some (.slice e)) (hk : tsz P e = some k) (h2 : compOpt P lo = some lo1) (h3 : compOpt P hi = some hi1) (h4 : compOpt P mx = some mx1)
    (h : xlsl c.σ ρ k lo1 hi1 mx1 v = some r) (hv : RepV c v u) :
    Yields1 P c (Instr.sliceAt t u (lo.map a.eval) (hi.map a.eval) (mx.map a.eval)) r := by
  have zero : ∀ {m : XO} {s0 : Option Addr} {n cap : Nat}, mx1 = some m → lo1 = none → (∃ kk, hi1.map (XO.ev ρ) = some (.i kk 0)) → (∃ kk, m.ev ρ = .i kk 0) → (∀ x, s0 = some x → x.spot = none) →
      Yields1 P c (Instr.sliceAt t (.slice s0 n cap) (lo.map a.eval) (hi.map a.eval) (mx.map a.eval)) .sz := by
    intro m s0 n cap e1 e2 e3 e4 hs0
    subst e1 e2
    obtain ⟨kk, e3⟩ := e3
    obtain ⟨kk', e4⟩ := e4
    obtain ⟨x, rfl, hx⟩ := opt_some h4
    have hlo := opt_none h2
    subst hlo
    simp only [Option.map_eq_some_iff] at e3
    obtain ⟨y, rfl, e3⟩ := e3
    obtain ⟨z, rfl, hz⟩ := opt_some h3
    have r1 := compO_rep hs ht hx
    have r2 := compO_rep hs ht hz
    rw [e4] at r1
    rw [e3] at r2
    simp only [RepV] at r1 r2
    refine ⟨.slice (if 0 = 0 then s0 else s0.map (·.add (0 * k))) (0 - 0) (0 - 0), ?_, by simp only [RepV]; exact ⟨s0, by simp, hs0⟩⟩
    simp [Instr.sliceAt, run_und hu, Instr.slice, Instr.sliceBounds, Instr.sliceBound, asIntOf, r1, r2, run_tsz hk]
  unfold xlsl at h
  split at h
  · rename_i k' n cs
    split at h
    · rename_i hkk
      subst hkk
      simp only [RepV] at hv
      obtain ⟨h0, hv⟩ := hv
      split at h
      · have hmx := opt_none h4
        subst hmx
        simp only [Option.map_eq_some_iff] at h
        obtain ⟨⟨p, q⟩, hb, rfl⟩ := h
        rcases hv with ⟨rfl, rfl, rfl⟩ | ⟨b, off, cap, rfl, hcap, hown, hat⟩
        · obtain ⟨b1, b2, b3⟩ := bounds_sound (P := P) (c := c) hs ht h2 h3 hb true 0 (Nat.le_refl _) (by simp)
          have hq : q = 0 := by omega
          have hp : p = 0 := by omega
          subst hq hp
          refine ⟨.slice none 0 0, ?_, by simp [RepV]⟩
          simp [Instr.sliceAt, run_und hu, Instr.slice, b1, run_tsz hk]
        · obtain ⟨b1, b2, b3⟩ := bounds_sound (P := P) (c := c) hs ht h2 h3 hb true cap hcap (by simp)
          refine ⟨.slice (if cap = p then some ⟨b, off, none⟩ else some ⟨b, off + p * k', none⟩) (q - p) (cap - p), ?_, ?_⟩
          · simp only [Instr.sliceAt, Sem.run_bind, run_und hu, Result.andThen_ok, Instr.slice, Option.map_none, b1, run_tsz hk, Sem.run_pure, Option.map_some, add_none]
          · simp only [RepV]
            have hle : p * k' + (q - p) * k' ≤ n * k' := by
              rw [← Nat.add_mul]; exact Nat.mul_le_mul_right _ (by omega)
            refine ⟨by simp; omega, .inr ?_⟩
            split
            · rename_i hcp
              have : q - p = 0 := by omega
              refine ⟨b, off, cap - p, rfl, by omega, ?_, ?_⟩
              · simp [this]
              · simp [this, RepAt]
            · refine ⟨b, off + p * k', cap - p, rfl, by omega, fun hne => hown (fun h => hne (by simp [h])), (hat.drop _).take _⟩
      · split at h
        · rename_i m _ _ _ e1 e2
          cases h
          rcases hv with ⟨rfl, rfl, rfl⟩ | ⟨b, off, cap, rfl, hcap, hown, hat⟩
          · exact zero rfl rfl ⟨_, e1⟩ ⟨_, e2⟩ (by intro x h; cases h <;> rfl)
          · exact zero rfl rfl ⟨_, e1⟩ ⟨_, e2⟩ (by intro x h; cases h <;> rfl)
        · cases h
    · cases h
  · rename_i r' st i n k'
    split at h
    · rename_i hkk
      obtain ⟨hkk, hlive⟩ := hkk
      subst hkk
      have hv0 := hv
      simp only [RepV] at hv
      obtain ⟨bl, hbl, hvirt⟩ := live_of hlive
      obtain ⟨off, cap, arr, T, fz, rfl, hcap, e3, e4⟩ := (hv.2.2 bl hbl).2 hvirt
      split at h
      · have hmx := opt_none h4
        subst hmx
        simp only [Option.map_eq_some_iff] at h
        obtain ⟨⟨p, q⟩, hb, rfl⟩ := h
        obtain ⟨b1, b2, b3⟩ := bounds_sound (P := P) (c := c) hs ht h2 h3 hb true cap hcap (by simp)
        refine ⟨.slice (some ⟨(c.loc r').1, if cap = p then off else off + p * k', none⟩) (q - p) (cap - p), ?_, ?_⟩
        · simp only [Instr.sliceAt, Sem.run_bind, run_und hu, Result.andThen_ok, Instr.slice, Option.map_none, b1, run_tsz hk, Sem.run_pure, Option.map_some, add_none]
          split <;> rfl
        · simp only [RepV]
          refine ⟨⟨_, _, rfl⟩, hv.2.1, fun blk hblk => ⟨fun hv' => ?_, fun hv' => ?_⟩⟩
          · rw [hblk] at hbl; cases hbl; rw [hvirt] at hv'; cases hv'
          · refine ⟨_, cap - p, arr, T, fz, rfl, by omega, e3, fun hne => ?_⟩
            rw [if_neg (by omega)]
            obtain ⟨w1, w2⟩ := e4 (by omega)
            refine ⟨by rw [w1, Nat.add_mul]; omega, ?_⟩
            rw [show i + p + (cap - p) = i + cap from by omega]; exact w2
      · split at h
        · rename_i m _ _ _ e1 e2
          cases h
          exact zero rfl rfl ⟨_, e1⟩ ⟨_, e2⟩ (by intro x h; cases h <;> rfl)
        · cases h
    · cases h
  · simp only [RepV] at hv
    subst hv
    split at h
    · have hmx := opt_none h4
      subst hmx
      simp only [Option.map_eq_some_iff] at h
      obtain ⟨⟨p, q⟩, hb, rfl⟩ := h
      obtain ⟨b1, b2, b3⟩ := bounds_sound (P := P) (c := c) hs ht h2 h3 hb true 0 (Nat.le_refl _) (by simp)
      have hq : q = 0 := by omega
      have hp : p = 0 := by omega
      subst hq hp
      refine ⟨.slice none 0 0, ?_, by simp [RepV]⟩
      simp [Instr.sliceAt, run_und hu, Instr.slice, b1, run_tsz hk]
    · split at h
      · rename_i m _ _ _ e1 e2
        cases h
        exact zero rfl rfl ⟨_, e1⟩ ⟨_, e2⟩ (by intro x h; cases h <;> rfl)
      · cases h
  · cases h
theorem xasl_sound {t e : TypeId} {k n : Nat} {lo hi : Option Operand} {lo1 hi1 : Option XO} {v r : AV} {u : Value} (hs : Sim P c) (ht : RepT c N ρ a.tmps)
    (hu : P.underlying t = some (.array n e)) (hk : tsz P e = some k) (h2 : compOpt P lo = some lo1) (h3 : compOpt P hi = some hi1)
    (h : xasl c.σ ρ k n lo1 hi1 v = some r) (hv : RepV c v u) :
    Yields1 P c (Instr.sliceAt t u (lo.map a.eval) (hi.map a.eval) none) r := by
  unfold xasl at h
  split at h
  · rename_i r' st kk i o
    simp only [Option.bind_eq_some_iff] at h
    obtain ⟨cs, hcs, h⟩ := h
    split at h
    · rename_i hcond
      obtain ⟨h0, hle⟩ := hcond
      simp only [Option.map_eq_some_iff] at h
      obtain ⟨⟨p, q⟩, hb, rfl⟩ := h
      have hv0 := hv.p_live (live_of_cells hcs)
      rw [h0, Nat.add_zero] at hv0
      subst hv0
      obtain ⟨arr, T, fzr, fz, g1, g2, g3, g4, st', g5⟩ := hs.cells hcs
      obtain ⟨b1, b2, b3⟩ := bounds_sound (P := P) (c := c) hs ht h2 h3 hb false n (Nat.le_refl _) (fun _ => rfl)
      refine ⟨.slice (some (if n = p then ⟨(c.loc r').1, (c.loc r').2, none⟩ else (⟨(c.loc r').1, (c.loc r').2, none⟩ : Addr).add (p * k))) (q - p) (n - p), ?_, ?_⟩
      · simp only [Instr.sliceAt, Sem.run_bind, run_und hu, Result.andThen_ok, Instr.sureAddr, Sem.run_pure, b1, run_tsz hk]
      · simp only [RepV] at hv ⊢
        refine ⟨⟨_, _, rfl⟩, hv.2.1, fun blk hblk => ⟨fun hv' => ?_, fun hv' => ?_⟩⟩
        · rw [g5] at hblk; cases hblk; cases hv'
        · by_cases hnp : n = p
          · refine ⟨(c.loc r').2, n - p, arr, T, fzr, by rw [if_pos hnp], by omega, g1, fun hne => by omega⟩
          · refine ⟨(c.loc r').2 + p * k, n - p, arr, T, fzr, by rw [if_neg hnp, add_none], by omega, g1, fun _ => ⟨rfl, ?_⟩⟩
            rw [show p + (n - p) = n from by omega]
            omega
    · cases h
  · cases h
theorem run_checkKey' {P : Program} {w : World} {kt : TypeId} {d : TypeDesc} {k : Value} (hd : P.underlying kt = some d) (hk : (∃ q, d = .int q) ∨ d = .string) (e : Bool) (n : Nat) : (Instr.checkKey e (n + 1) kt k).run P w = .ok () w := by
  unfold Instr.checkKey
  simp only [Sem.run_bind, run_underlying hd, Result.andThen]
  rcases hk with ⟨q, rfl⟩ | rfl <;> cases k <;> rfl
theorem kstr_of {kt : TypeId} {str : Bool} (h : kstr P kt = some str) : ∃ d, P.underlying kt = some d ∧ ((∃ q, d = .int q) ∨ d = .string) ∧ (str = true → d = .string) ∧ (str = false → ∃ q, d = .int q) := by
  unfold kstr at h
  split at h
  · rename_i q hu; cases h; exact ⟨_, hu, .inl ⟨q, rfl⟩, by simp, fun _ => ⟨q, rfl⟩⟩
  · rename_i hu; cases h; exact ⟨_, hu, .inr rfl, fun _ => rfl, by simp⟩
  · cases h
theorem same_key {d : TypeDesc} {str : Bool} {k k' : AV} {u u' : Value} {t : Bool} (hd1 : str = true → d = .string) (hd2 : str = false → ∃ q, d = .int q) (hk : keyIs str k = true) (h : keyEq k k' = some t) (hu : RepV c k u) (hu' : RepV c k' u') :
    Instr.sameNow d u u' = some t ∧ (t = true → k = k' ∧ Instr.sameBits 10000 u' u = true) := by
  unfold keyEq at h
  split at h
  · rename_i q x q' y
    split at h
    · rename_i hq
      subst hq
      cases h
      simp only [RepV] at hu hu'
      subst hu hu'
      have hs : str = false := by simpa [keyIs] using hk
      obtain ⟨q0, rfl⟩ := hd2 hs
      refine ⟨by simp [Instr.sameNow], fun ht => ?_⟩
      have : x = y := by simpa using ht
      subst this
      exact ⟨rfl, by simp [Instr.sameBits]⟩
    · cases h
  · rename_i x y
    cases h
    simp only [RepV] at hu hu'
    obtain ⟨rfl, hx⟩ := hu
    obtain ⟨rfl, hy⟩ := hu'
    have hs : str = true := by simpa [keyIs] using hk
    rw [hd1 hs]
    have e : (bs x == bs y) = (x == y) := by
      rw [Bool.eq_iff_iff, MapKept.bytes_beq, beq_iff_eq]
      constructor
      · intro h
        have h2 := congrArg (fun b : ByteArray => b.data.toList) h
        simp only [bs] at h2
        exact (map_ofNat_inj hx hy).1 h2
      · rintro rfl; rfl
    refine ⟨by simp only [Instr.sameNow, e], fun ht => ?_⟩
    have : x = y := by simpa using ht
    subst this
    exact ⟨rfl, by simp only [Instr.sameBits]; exact (MapKept.bytes_beq _ _).2 rfl⟩
  · cases h
theorem find_key {d : TypeDesc} {str : Bool} {k : AV} {u : Value} (hd1 : str = true → d = .string) (hd2 : str = false → ∃ q, d = .int q) (hk : keyIs str k = true) (hu : RepV c k u) :
    ∀ {es : List (AV × AV × Nat)} {l : List MapEntry} {o : Option AV} (i : Nat), mgetL k es = some o → RepE c es l →
      (o = none ∧ Instr.findNow d u l i = some none) ∨ ∃ v j e, o = some v ∧ l[j]? = some e ∧ Instr.findNow d u l i = some (some (i + j, e.val)) ∧ RepV c v e.val ∧ Instr.sameBits 10000 e.key u = true
  | [], l, o, i, h, hr => by
    simp only [mgetL, Option.some.injEq] at h
    simp only [RepE] at hr
    subst h hr
    exact .inl ⟨rfl, rfl⟩
  | (k', v', b) :: es, l, o, i, h, hr => by
    simp only [RepE] at hr
    obtain ⟨e, l', rfl, r1, r2, r3, r4⟩ := hr
    simp only [mgetL, Option.bind_eq_some_iff] at h
    obtain ⟨t, ht, h⟩ := h
    obtain ⟨s1, s2⟩ := same_key hd1 hd2 hk ht hu r1
    cases t with
    | true =>
      cases h
      exact .inr ⟨v', 0, e, rfl, rfl, by simp [Instr.findNow, s1], r2, (s2 rfl).2⟩
    | false =>
      rcases find_key hd1 hd2 hk hu (i + 1) h r4 with ⟨h1, h2⟩ | ⟨v, j, e', h1, h2, h3, h4, h5⟩
      · exact .inl ⟨h1, by simp only [Instr.findNow, s1]; exact h2⟩
      · exact .inr ⟨v, j + 1, e', h1, by simpa using h2, by simp only [Instr.findNow, s1]; rw [h3]; congr 3; omega, h4, h5⟩
theorem RepE.length : ∀ {es : List (AV × AV × Nat)} {l : List MapEntry}, RepE c es l → es.length = l.length
  | [], l, h => by simp only [RepE] at h; subst h; rfl
  | (k, v, b) :: es, l, h => by
    simp only [RepE] at h
    obtain ⟨e, l', rfl, _, _, _, h⟩ := h
    simp [RepE.length h]
theorem run_getMap {w : World} {r : Nat} {es : Array MapEntry} {ck : Nat} (hb : w.heap[r]? = some (.map es ck)) : (getObj r).run P w = .ok (.map es ck) w := by
  simp [getObj, Sem.run, hb]
theorem run_findKey' {w : World} {kt : TypeId} {d : TypeDesc} {k : Value} {l : List MapEntry} {o : Option (Nat × Value)} (hd : P.underlying kt = some d) (h : Instr.findNow d k l 0 = some o) : (Instr.findKey kt k l).run P w = .ok o w := by
  simp [Instr.findKey, run_und hd, h]
theorem tzv_run {t : TypeId} {z : AV} (h : tzv P t = some z) (w : World) : ∃ v, (zeroValue t).run P w = .ok v w ∧ ∀ c : Cx, RepV c z v := by
  unfold tzv at h
  simp only [Option.bind_eq_some_iff] at h
  obtain ⟨i, hi, v, hv, hz⟩ := h
  exact ⟨v, by simp [zeroValue, run_tinfo hi, hv], fun c => litV_rep hz⟩
theorem mapEs_rep {x : AV} {u : Value} {es : List (AV × AV × Nat)} (hs : Sim P c) (h : mapEs c.σ x = some es) (hu : RepV c x u) :
    (u = .map none ∧ es = []) ∨ ∃ b ck arr, u = .map (some b) ∧ c.w.heap[b]? = some (.map arr ck) ∧ RepE c es arr.toList := by
  unfold mapEs at h
  split at h
  · cases h; simp only [RepV] at hu; exact .inl ⟨hu, rfl⟩
  · rename_i r st
    split at h
    · rename_i st' ck es' hat
      cases h
      simp only [RepV] at hu
      have hv := hu.2.2 _ hat rfl
      obtain ⟨g1, _⟩ := Store.at_some hat
      obtain ⟨b1, _⟩ := hs.blk _ _ g1
      simp only [BlkRep] at b1
      obtain ⟨arr, e1, e2⟩ := b1
      exact .inr ⟨_, ck, arr, hv, e1, e2⟩
    · cases h
  · cases h
theorem xmget_sound {t kt et : TypeId} {str ok : Bool} {z x i v : AV} {ux ui : Value} (hs : Sim P c) (hu : P.underlying t = some (.map kt et)) (hk : kstr P kt = some str) (hz : tzv P et = some z)
    (h : xmget c.σ str z ok x i = some v) (hx : RepV c x ux) (hi : RepV c i ui) : Yields1 P c (Instr.lookup t ux ui ok) v := by
  obtain ⟨d, hd, hdk, hd1, hd2⟩ := kstr_of hk
  obtain ⟨zv, hz1, hz2⟩ := tzv_run hz c.w
  unfold xmget at h
  split at h
  · rename_i hki
    simp only [Option.bind_eq_some_iff, Option.map_eq_some_iff] at h
    obtain ⟨es, hes, o, ho, rfl⟩ := h
    rcases mapEs_rep hs hes hx with ⟨rfl, rfl⟩ | ⟨b, ck, arr, rfl, hb, hr⟩
    · simp only [mgetL, Option.some.injEq] at ho
      subst ho
      have hf : Instr.findNow d ui [] 0 = some none := rfl
      cases ok with
      | true => exact ⟨.tuple #[zv, .bool false], by simp [Instr.lookup, run_und hu, run_checkKey' hd hdk, run_findKey' hd hf, hz1], by simp [RepV, RepL, hz2 c]⟩
      | false => exact ⟨zv, by simp [Instr.lookup, run_und hu, run_checkKey' hd hdk, run_findKey' hd hf, hz1], hz2 c⟩
    · rcases find_key (c := c) hd1 hd2 hki hi 0 ho hr with ⟨rfl, h2⟩ | ⟨v, j, e, rfl, h2, h3, h4, h5⟩
      · cases ok with
        | true => exact ⟨.tuple #[zv, .bool false], by simp [Instr.lookup, run_und hu, run_getMap hb, run_checkKey' hd hdk, run_findKey' hd h2, hz1], by simp [RepV, RepL, hz2 c]⟩
        | false => exact ⟨zv, by simp [Instr.lookup, run_und hu, run_getMap hb, run_checkKey' hd hdk, run_findKey' hd h2, hz1], hz2 c⟩
      · cases ok with
        | true => exact ⟨.tuple #[e.val, .bool true], by simp [Instr.lookup, run_und hu, run_getMap hb, run_checkKey' hd hdk, run_findKey' hd h3], by simp [RepV, RepL, h4]⟩
        | false => exact ⟨e.val, by simp [Instr.lookup, run_und hu, run_getMap hb, run_checkKey' hd hdk, run_findKey' hd h3], h4⟩
  · cases h
theorem find_born : ∀ {es : List (AV × AV × Nat)} {l : List MapEntry} {b : Nat} {e : AV × AV × Nat}, RepE c es l → (es.find? fun e => e.2.2 == b) = some e →
    ∃ x, (l.find? fun x => x.born == b) = some x ∧ RepV c e.1 x.key ∧ RepV c e.2.1 x.val
  | [], l, b, e, hr, h => by simp at h
  | (k, v, b0) :: es, l, b, e, hr, h => by
    simp only [RepE] at hr
    obtain ⟨x, l', rfl, h1, h2, h3, h4⟩ := hr
    subst h3
    simp only [List.find?_cons] at h ⊢
    cases hb : x.born == b with
    | true =>
      rw [hb] at h
      simp only [Option.some.injEq] at h
      subst h
      exact ⟨x, rfl, h1, h2⟩
    | false =>
      rw [hb] at h
      exact find_born h4 h
theorem mkEs_rep : ∀ {bs : List Nat} {ks : List AV} {l : List MapEntry}, l.map (·.born) = bs → RepL c ks (l.map (·.key)) → RepE c (mkEs bs ks) l
  | [], ks, l, h1, h2 => by
    have : l = [] := by simpa using h1
    subst this
    simp [mkEs, RepE]
  | b :: bs, ks, [], h1, h2 => by simp at h1
  | b :: bs, ks, e :: l, h1, h2 => by
    simp only [List.map_cons, List.cons.injEq] at h1
    cases ks with
    | nil => simp only [List.map_cons, RepL] at h2; cases h2
    | cons k ks =>
      simp only [List.map_cons, RepL] at h2
      obtain ⟨y, ys, hy, r1, r2⟩ := h2
      cases hy
      simp only [mkEs, RepE]
      exact ⟨e, l, rfl, r1, by simp only [RepV], h1.1, mkEs_rep h1.2 r2⟩
theorem xent_sound {x v : AV} {u : Value} (hs : Sim P c) (h : xent c.σ x = some v) (hx : RepV c x u) : Yields1 P c (Instr.entry u) v := by
  unfold xent at h
  split at h
  · rename_i r st
    simp only [RepV] at hx
    split at h
    · rename_i st' rm sm since last seen hat
      have hu := hx.2.2 _ hat rfl
      subst hu
      obtain ⟨g1, _⟩ := Store.at_some hat
      obtain ⟨b1, _⟩ := hs.blk _ _ g1
      simp only [BlkRep] at b1
      obtain ⟨m, e1, e2, e3⟩ := b1
      split at h
      · rename_i b st2 ck es hl hm
        split at h
        · rename_i hck
          subst hck
          simp only [Option.map_eq_some_iff] at h
          obtain ⟨e, he, rfl⟩ := h
          have hmm := e3 _ hm rfl
          subst hmm
          obtain ⟨g2, _⟩ := Store.at_some hm
          obtain ⟨b2, _⟩ := hs.blk _ _ g2
          simp only [BlkRep] at b2
          obtain ⟨arr, f1, f2⟩ := b2
          obtain ⟨x, q1, q2, q3⟩ := find_born f2 he
          have hget : (getObj ((c.loc r).1)).run P c.w = .ok (.mapIter (some ((c.loc rm).1)) since seen.toArray ck) c.w := by simp [getObj, Sem.run, e1]
          have hfind : arr.find? (fun x => x.born == b) = some x := by rw [← Array.find?_toList]; exact q1
          refine ⟨.tuple #[x.key, x.val], ?_, ?_⟩
          · simp [Instr.entry, hget, hl, run_getMap f1, hfind]
          · simp only [RepV, RepL]
            exact ⟨_, rfl, _, _, rfl, q2, _, _, rfl, q3, rfl⟩
        · cases h
      · cases h
    · rename_i st' ck bs ks seen hat
      have hu := hx.2.2 _ hat rfl
      subst hu
      obtain ⟨g1, _⟩ := Store.at_some hat
      obtain ⟨b1, _⟩ := hs.blk _ _ g1
      simp only [BlkRep] at b1
      obtain ⟨m, arr, e1, e2, f1, e3, e4⟩ := b1
      split at h
      · rename_i b hl
        simp only [Option.map_eq_some_iff] at h
        obtain ⟨e, he, rfl⟩ := h
        obtain ⟨x, q1, q2, q3⟩ := find_born (mkEs_rep (c := c) e3 e4) he
        have hget : (getObj ((c.loc r).1)).run P c.w = .ok (.mapIter (some m) ck seen.toArray ck) c.w := by simp [getObj, Sem.run, e1]
        have hfind : arr.find? (fun x => x.born == b) = some x := by rw [← Array.find?_toList]; exact q1
        refine ⟨.tuple #[x.key, x.val], ?_, ?_⟩
        · simp [Instr.entry, hget, hl, run_getMap f1, hfind]
        · simp only [RepV, RepL]
          exact ⟨_, rfl, _, _, rfl, q2, _, _, rfl, trivial, rfl⟩
      · cases h
    · cases h
  · cases h
theorem fold_max {k : IntKind} : ∀ {l : List AV} {vs : List Value} {p : Int} {r : AV}, xfold (fun a b => if b > a then b else a) k p l = some r → RepL c l vs →
    Yields1 P c (vs.foldlM Builtin.max2 (.int k p)) r
  | [], vs, p, r, h, hr => by
    simp only [xfold, Option.some.injEq] at h
    subst h
    simp only [RepL] at hr
    subst hr
    exact ⟨.int k p, by simp, by simp [RepV]⟩
  | x :: xs, vs, p, r, h, hr => by
    simp only [RepL] at hr
    obtain ⟨y, ys, rfl, h1, h2⟩ := hr
    unfold xfold at h
    split at h
    · rename_i heq; cases heq
    · rename_i k' b xs' heq
      cases heq
      split at h
      · rename_i hk
        subst hk
        simp only [RepV] at h1
        subst h1
        obtain ⟨u, hu1, hu2⟩ := fold_max h h2
        refine ⟨u, ?_, hu2⟩
        rw [List.foldlM_cons]
        simp only [Sem.run_bind, Builtin.max2, Sem.run_pure, Result.andThen_ok]
        exact hu1
      · cases h
    · cases h
theorem fold_min {k : IntKind} : ∀ {l : List AV} {vs : List Value} {p : Int} {r : AV}, xfold (fun a b => if b < a then b else a) k p l = some r → RepL c l vs →
    Yields1 P c (vs.foldlM Builtin.min2 (.int k p)) r
  | [], vs, p, r, h, hr => by
    simp only [xfold, Option.some.injEq] at h
    subst h
    simp only [RepL] at hr
    subst hr
    exact ⟨.int k p, by simp, by simp [RepV]⟩
  | x :: xs, vs, p, r, h, hr => by
    simp only [RepL] at hr
    obtain ⟨y, ys, rfl, h1, h2⟩ := hr
    unfold xfold at h
    split at h
    · rename_i heq; cases heq
    · rename_i k' b xs' heq
      cases heq
      split at h
      · rename_i hk
        subst hk
        simp only [RepV] at h1
        subst h1
        obtain ⟨u, hu1, hu2⟩ := fold_min h h2
        refine ⟨u, ?_, hu2⟩
        rw [List.foldlM_cons]
        simp only [Sem.run_bind, Builtin.min2, Sem.run_pure, Result.andThen_ok]
        exact hu1
      · cases h
    · cases h
set_option maxHeartbeats 1000000 in
theorem xpure_sound {o : Oper} {x : XOp} {v : AV} (hs : Sim P c) (ht : RepT c N ρ a.tmps) (hc : compOp P o = some x) (hx : xpure c.σ ρ x = some v) :
    ∃ u, (execOp a.eval o).run P c.w = .ok (.value u) c.w ∧ RepV c v u := by
  obtain ⟨dst, op, type, pos, after, guard⟩ := o
  cases op <;> simp only [compOp] at hc
  case move x0 =>
    simp only [Option.map_eq_some_iff] at hc
    obtain ⟨y, h1, rfl⟩ := hc
    simp only [xpure, Option.some.injEq] at hx
    subst hx
    exact ⟨_, rfl, compO_rep hs ht h1⟩
  case assign x0 =>
    simp only [Option.map_eq_some_iff] at hc
    obtain ⟨y, h1, rfl⟩ := hc
    simp only [xpure, Option.some.injEq] at hx
    subst hx
    exact ⟨_, rfl, compO_rep hs ht h1⟩
  case pick c0 a0 b0 =>
    simp only [Option.map_eq_some_iff, Option.bind_eq_some_iff] at hc
    obtain ⟨c1, h1, a1, h2, b1, h3, rfl⟩ := hc
    simp only [xpure] at hx
    split at hx
    · rename_i t ht'
      cases hx
      have hc1 := compO_rep hs ht h1
      rw [ht'] at hc1
      simp only [RepV] at hc1
      cases t with
      | true => exact ⟨a.eval a0, by simp [execOp, hc1, asBool], compO_rep hs ht h2⟩
      | false => exact ⟨a.eval b0, by simp [execOp, hc1, asBool], compO_rep hs ht h3⟩
    · cases hx
  case alloc e =>
    simp only [Option.map_eq_some_iff] at hc
    obtain ⟨z, h1, rfl⟩ := hc
    simp [xpure] at hx
  case box e y =>
    simp only [Option.map_eq_some_iff] at hc
    obtain ⟨z, h1, rfl⟩ := hc
    simp [xpure] at hx
  case build t ps =>
    split at hc
    · rename_i fs hu
      split at hc
      · rename_i hall
        simp only [Option.map_eq_some_iff, Option.bind_eq_some_iff] at hc
        obtain ⟨z, hz, l, hl, rfl⟩ := hc
        simp only [xpure, Option.map_eq_some_iff] at hx
        obtain ⟨cs, hf, rfl⟩ := hx
        obtain ⟨zv, hz1, hz2⟩ := run_tzero hz c.w
        obtain ⟨r1, r2⟩ := litL_rep (c := c) hz2
        obtain ⟨pl, hp1, hp2⟩ := run_places (P := P) c.w fs.toList hall
        have hpl : (fs.mapM fun f => do pure (f.offset, ← Go.sizeOf f.type) : Sem (Array (Nat × Nat))).run P c.w = .ok pl.toArray c.w := by
          rw [Array.mapM_eq_mapM_toList]
          simp only [Sem.run_map, hp1, Result.andThen_ok]
        have hfun : (fun i : Nat => pl.toArray[i]?) = fieldPlaces P fs := by
          funext i
          simp only [List.getElem?_toArray, hp2, fieldPlaces, Array.getElem?_toList]
          try rfl
        obtain ⟨arr, e1, e2, e3⟩ := fill_rep (c := c) hs ht (fieldPlaces P fs) hl hf r1 r2
        refine ⟨.agg arr, ?_, by simp only [RepV]; exact ⟨arr, rfl, e2, e3⟩⟩
        simp only [execOp]
        refine exec_v ?_
        simp only [Instr.build, Sem.run_bind, hz1, Result.andThen_ok, run_und hu, hpl]
        have e1' : Instr.fill (fun x => pl.toArray[x]?) zv.cells (ps.map fun x => (x.1, a.eval x.2)).toList = some arr := by
          rw [hfun, Array.toList_map]; exact e1
        rw [e1']
        rfl
      · cases hc
    · rename_i n e hu
      simp only [Option.map_eq_some_iff, Option.bind_eq_some_iff] at hc
      obtain ⟨k, hk, z, hz, l, hl, rfl⟩ := hc
      simp only [xpure, Option.map_eq_some_iff] at hx
      obtain ⟨cs, hf, rfl⟩ := hx
      obtain ⟨zv, hz1, hz2⟩ := run_tzero hz c.w
      obtain ⟨r1, r2⟩ := litL_rep (c := c) hz2
      obtain ⟨arr, e1, e2, e3⟩ := fill_rep (c := c) hs ht _ hl hf r1 r2
      refine ⟨.agg arr, ?_, by simp only [RepV]; exact ⟨arr, rfl, e2, e3⟩⟩
      simp only [execOp]
      refine exec_v ?_
      simp only [Instr.build, Sem.run_bind, hz1, Result.andThen_ok, run_und hu, run_tsz hk]
      have e1' : Instr.fill (fun i => some (i * k, k)) zv.cells (ps.map fun x => (x.1, a.eval x.2)).toList = some arr := by
        rw [Array.toList_map]; exact e1
      rw [e1']
      rfl
    · cases hc
  case buildSlice t n ps =>
    split at hc
    · simp only [Option.bind_eq_some_iff] at hc
      obtain ⟨k, hk, z, hz, hc⟩ := hc
      split at hc
      · simp only [Option.map_eq_some_iff] at hc
        obtain ⟨l, hl, rfl⟩ := hc
        simp [xpure] at hx
      · split at hc
        · cases hc; simp [xpure] at hx
        · cases hc
    · cases hc
  case load t y =>
    simp only [Option.map_eq_some_iff, Option.bind_eq_some_iff] at hc
    obtain ⟨g, hg, n, hn, y1, h1, rfl⟩ := hc
    have hr := compO_rep hs ht h1
    simp only [xpure] at hx
    split at hx
    · rename_i r st k i o he
      rw [he] at hr
      simp only [Option.bind_eq_some_iff] at hx
      obtain ⟨cs, hcs, l, hl, hp⟩ := hx
      obtain ⟨arr, T, fzr, fz, e1, e2, e3, e4, st', e5⟩ := hs.cells hcs
      have hv := hr.p_live (live_of_cells hcs)
      obtain ⟨q1, q2⟩ := loadN_at e4 hl
      obtain ⟨u, hu1, hu2⟩ := run_load_of hg hn q1 q2 hp
      refine ⟨u, ?_, hu2⟩
      simp only [execOp, Instr.loadAt, hv, Instr.sureAddr]
      exact exec_v hu1
    · rename_i cs k i o he
      rw [he] at hr
      simp only [Option.bind_eq_some_iff] at hx
      obtain ⟨l, hl, hp⟩ := hx
      simp only [RepV] at hr
      obtain ⟨b, off, hv, _, hat⟩ := hr
      obtain ⟨q1, q2⟩ := loadN_at hat hl
      obtain ⟨u, hu1, hu2⟩ := run_load_of hg hn q1 q2 hp
      refine ⟨u, ?_, hu2⟩
      simp only [execOp, Instr.loadAt, hv, Instr.sureAddr]
      exact exec_v hu1
    · cases hx
  case store t y z =>
    simp only [Option.map_eq_some_iff, Option.bind_eq_some_iff] at hc
    obtain ⟨n, hn, y1, h1, z1, h2, rfl⟩ := hc
    simp [xpure] at hx
  case nilCheck y =>
    simp only [Option.map_eq_some_iff] at hc
    obtain ⟨y1, h1, rfl⟩ := hc
    have hr := compO_rep hs ht h1
    simp only [xpure] at hx
    split at hx
    · rename_i r st k i o he
      split at hx
      · rename_i hl
        cases hx
        rw [he] at hr
        have hv := hr.p_live hl
        exact ⟨a.eval y, by simp [execOp, hv], hr⟩
      · cases hx
    · rename_i cs k i o he
      cases hx
      rw [he] at hr
      have hr' := hr
      simp only [RepV] at hr'
      obtain ⟨b, off, hv, _⟩ := hr'
      exact ⟨a.eval y, by simp [execOp, hv], hr⟩
    · rename_i f p q he
      cases hx
      rw [he] at hr
      have hr' := hr
      simp only [RepV] at hr'
      obtain ⟨f', c', hv, _⟩ := hr'
      exact ⟨a.eval y, by simp [execOp, hv], hr⟩
    · rename_i t w' he
      cases hx
      rw [he] at hr
      have hr' := hr
      simp only [RepV] at hr'
      obtain ⟨y', hv, _⟩ := hr'
      exact ⟨a.eval y, by simp [execOp, hv], hr⟩
    · cases hx
  case binOp op t y z t' =>
    simp only [Option.bind_eq_some_iff] at hc
    obtain ⟨y1, h1, z1, h2, hc⟩ := hc
    have hr1 := compO_rep hs ht h1
    have hr2 := compO_rep hs ht h2
    have plain : ∀ {w' : AV}, xbin op (y1.ev ρ) (z1.ev ρ) = some w' → ∃ u, (execOp a.eval ⟨dst, .binOp op t y z t', type, pos, after, guard⟩).run P c.w = .ok (.value u) c.w ∧ RepV c w' u := by
      intro w' hw
      obtain ⟨u, hu1, hu2⟩ := xbin_sound hw hr1 hr2 t (P := P)
      refine ⟨u, ?_, hu2⟩
      simp only [execOp]
      refine exec_v ?_
      simp only [Sem.run_bind, eqGuard_ok op t y z _ (xbin_plain hw hr1), Result.andThen_ok, hu1]
    have eqs : ∀ {k : XEq}, eqType P t k → (op = .eql ∨ op = .neq) → x = .eq k (op == .neq) y1 z1 → ∃ u, (execOp a.eval ⟨dst, .binOp op t y z t', type, pos, after, guard⟩).run P c.w = .ok (.value u) c.w ∧ RepV c v u := by
      intro k hk hop hxx
      subst hxx
      simp only [xpure, Option.map_eq_some_iff] at hx
      obtain ⟨b, hb, rfl⟩ := hx
      obtain ⟨p1, p2, p3⟩ := xeqS_sound hb hr1 hr2 hk c.w
      rcases hop with rfl | rfl
      · refine ⟨.bool b, ?_, by simp [RepV]⟩
        simp only [execOp]
        refine exec_v ?_
        simp only [Sem.run_bind, eqGuard_ok _ t y z _ p1, Result.andThen_ok, p2]
      · refine ⟨.bool (!b), ?_, by simp [RepV]⟩
        simp only [execOp]
        refine exec_v ?_
        simp only [Sem.run_bind, eqGuard_ok _ t y z _ p1, Result.andThen_ok, p3]
    have ifcs : ∀ {ms : Array (String × TypeId)}, P.underlying t = some (.interface ms) → (op = .eql ∨ op = .neq) → compO P z = some (.c .ni) → x = .eq .ifc (op == .neq) y1 (.c .ni) → ∃ u, (execOp a.eval ⟨dst, .binOp op t y z t', type, pos, after, guard⟩).run P c.w = .ok (.value u) c.w ∧ RepV c v u := by
      intro ms hu hop hz hxx
      subst hxx
      simp only [xpure, XO.ev, Option.map_eq_some_iff, xeqS] at hx
      obtain ⟨b, hb, rfl⟩ := hx
      have hzv : ∃ v', z = .const v' ∧ a.eval z = .nilIface := by
        cases z <;> simp only [compO] at hz <;> try (cases hz; done)
        case global g => simp only [Option.some.injEq, XO.c.injEq] at hz; split at hz <;> cases hz
        rename_i v'
        have := compO_rep (c := c) hs ht (o := .const v') (x := .c .ni) hz
        simp only [XO.ev, RepV] at this
        exact ⟨v', rfl, this⟩
      obtain ⟨v', rfl, hev⟩ := hzv
      obtain ⟨p1, p2, p3, p4⟩ := ifc_nil (y := y) (v := v') hb hr1 hu c.w
      rcases hop with rfl | rfl
      · refine ⟨.bool b, ?_, by simp [RepV]⟩
        simp only [execOp]
        refine exec_v ?_
        simp only [hev, Sem.run_bind, p3, Result.andThen_ok, p1]
      · refine ⟨.bool (!b), ?_, by simp [RepV]⟩
        simp only [execOp]
        refine exec_v ?_
        simp only [hev, Sem.run_bind, p4, Result.andThen_ok, p2]
    have ints : ∀ {m : Nat}, intsOf P t = some m → (op = .eql ∨ op = .neq) → x = .eq (.ints m) (op == .neq) y1 z1 → ∃ u, (execOp a.eval ⟨dst, .binOp op t y z t', type, pos, after, guard⟩).run P c.w = .ok (.value u) c.w ∧ RepV c v u := by
      intro m hm hop hxx
      subst hxx
      simp only [xpure, Option.map_eq_some_iff] at hx
      obtain ⟨b, hb, rfl⟩ := hx
      unfold xeqS at hb
      split at hb <;> try (rename_i he _ _; cases he; done)
      all_goals try (rename_i he _; cases he; done)
      · rename_i n xs ys he e1 e2
        cases he
        rw [e1] at hr1
        rw [e2] at hr2
        split at hb
        · rename_i hl
          obtain ⟨p1, p2, p3⟩ := ints_sound hm hl hb hr1 hr2 c.w
          rcases hop with rfl | rfl
          · refine ⟨.bool b, ?_, by simp [RepV]⟩
            simp only [execOp]
            refine exec_v ?_
            simp only [Sem.run_bind, p1, Result.andThen_ok, p2]
          · refine ⟨.bool (!b), ?_, by simp [RepV]⟩
            simp only [execOp]
            refine exec_v ?_
            simp only [Sem.run_bind, p1, Result.andThen_ok, p3]
        · cases hb
      · simp [xeq] at hb
    unfold compBin at hc
    split at hc
    · split at hc
      · cases hc; exact plain hx
      · cases hc; exact plain hx
      · rename_i hu; cases hc; exact eqs (k := .bool) hu (.inl rfl) rfl
      · rename_i hu; cases hc; exact eqs (k := .slc) ⟨_, hu⟩ (.inl rfl) rfl
      · rename_i hu; cases hc; exact eqs (k := .map) ⟨_, _, hu⟩ (.inl rfl) rfl
      · rename_i hu; cases hc; exact eqs (k := .fun) ⟨_, _, _, hu⟩ (.inl rfl) rfl
      · rename_i hu
        split at hc
        · rename_i hsz
          cases hc
          obtain ⟨n, hn⟩ := Option.isSome_iff_exists.1 hsz
          exact eqs (k := .ptr) ⟨_, n, hu, hn⟩ (.inl rfl) rfl
        · cases hc
      · rename_i hu
        split at hc
        · cases hc; exact ifcs hu (.inl rfl) h2 rfl
        · cases hc; exact eqs (k := .ifi _) ⟨⟨_, hu⟩, numTypes_ok⟩ (.inl rfl) rfl
      · simp only [Option.map_eq_some_iff] at hc
        obtain ⟨m, hm, rfl⟩ := hc
        exact ints hm (.inl rfl) rfl
    · split at hc
      · cases hc; exact plain hx
      · cases hc; exact plain hx
      · rename_i hu; cases hc; exact eqs (k := .bool) hu (.inr rfl) rfl
      · rename_i hu; cases hc; exact eqs (k := .slc) ⟨_, hu⟩ (.inr rfl) rfl
      · rename_i hu; cases hc; exact eqs (k := .map) ⟨_, _, hu⟩ (.inr rfl) rfl
      · rename_i hu; cases hc; exact eqs (k := .fun) ⟨_, _, _, hu⟩ (.inr rfl) rfl
      · rename_i hu
        split at hc
        · rename_i hsz
          cases hc
          obtain ⟨n, hn⟩ := Option.isSome_iff_exists.1 hsz
          exact eqs (k := .ptr) ⟨_, n, hu, hn⟩ (.inr rfl) rfl
        · cases hc
      · rename_i hu
        split at hc
        · cases hc; exact ifcs hu (.inr rfl) h2 rfl
        · cases hc; exact eqs (k := .ifi _) ⟨⟨_, hu⟩, numTypes_ok⟩ (.inr rfl) rfl
      · simp only [Option.map_eq_some_iff] at hc
        obtain ⟨m, hm, rfl⟩ := hc
        exact ints hm (.inr rfl) rfl
    · cases hc; exact plain hx
  case unOp op t y =>
    simp only [Option.map_eq_some_iff] at hc
    obtain ⟨y1, h1, rfl⟩ := hc
    have hr := compO_rep hs ht h1
    simp only [xpure] at hx
    split at hx
    · rename_i k n he
      cases hx
      rw [he] at hr
      simp only [RepV] at hr
      refine ⟨.int k (k.wrap (0 - n)), ?_, by simp [RepV]⟩
      simp only [execOp]
      refine exec_v ?_
      simp [hr, Op.unary, Op.intArith]
    · rename_i b he
      cases hx
      rw [he] at hr
      simp only [RepV] at hr
      refine ⟨.bool (!b), ?_, by simp [RepV]⟩
      simp only [execOp]
      refine exec_v ?_
      simp [hr, Op.unary]
    · rename_i k n he
      rw [he] at hr
      obtain ⟨u, hu1, hu2⟩ := xbin_sound hx (c := c) (u := .int k (if k.signed then -1 else k.max)) (by simp [RepV]) hr t (P := P)
      refine ⟨u, ?_, hu2⟩
      simp only [execOp]
      refine exec_v ?_
      simp only [RepV] at hr
      rw [hr] at hu1 ⊢
      simp only [binOp, ne_eq, not_true_eq_false, if_false] at hu1
      simp only [Op.unary]
      exact hu1
    · cases hx
  case typeAssert y xt asserted ok =>
    split at hc
    · cases hc
    · cases hc
    · rename_i hn1 hn2
      simp only [Option.map_eq_some_iff] at hc
      obtain ⟨y1, h1, rfl⟩ := hc
      have hr := compO_rep hs ht h1
      simp only [xpure, xconv] at hx
      split at hx
      · rename_i t' y' he
        split at hx
        · rename_i hte
          subst hte
          cases hx
          rw [he] at hr
          simp only [RepV] at hr
          obtain ⟨v', hv, hr'⟩ := hr
          cases hd : P.underlying t' with
          | none => exact absurd hd hn2
          | some d =>
            have hni : ∀ ms, d ≠ .interface ms := fun ms e => hn1 ms (by rw [hd, e])
            cases ok with
            | false =>
              refine ⟨v', ?_, hr'⟩
              simp only [execOp]
              refine exec_v ?_
              rw [hv]
              simp only [Instr.typeAssert, Sem.run_bind, run_und hd, Result.andThen_ok]
              cases d <;> first | (exact absurd rfl (hni _)) | simp
            | true =>
              refine ⟨.tuple #[v', .bool true], ?_, by simp [RepV, RepL, hr']⟩
              simp only [execOp]
              refine exec_v ?_
              rw [hv]
              simp only [Instr.typeAssert, Sem.run_bind, run_und hd, Result.andThen_ok]
              cases d <;> first | (exact absurd rfl (hni _)) | simp
        · cases hx
      · cases hx
  case convert sr ds y =>
    simp only [Option.bind_eq_some_iff] at hc
    obtain ⟨y1, h1, hc⟩ := hc
    have hr := compO_rep hs ht h1
    unfold compConv at hc
    split at hc
    · rename_i k0 k hu1 hu2
      cases hc
      simp only [xpure, xconv] at hx
      split at hx
      · rename_i k' n hk
        cases hx
        rw [hk] at hr
        simp only [RepV] at hr
        refine ⟨.int k (k.wrap n), ?_, by simp [RepV]⟩
        simp only [execOp]
        refine exec_v ?_
        simp [hr, convert, run_und hu1, run_und hu2, Conv.intToInt]
      · cases hx
    · rename_i hu1 hu2
      cases hc
      simp only [xpure, xconv] at hx
      split at hx
      · rename_i l hk
        cases hx
        rw [hk] at hr
        simp only [RepV] at hr
        refine ⟨.string (bs l), ?_, by simp only [RepV]; exact ⟨trivial, hr.2⟩⟩
        simp only [execOp]
        refine exec_v ?_
        simp [hr.1, convert, run_und hu1, run_und hu2]
      · cases hx
    · rename_i e hu1 hu2
      split at hc
      · cases hc
        simp [xpure, xconv] at hx
      · cases hc
    · rename_i e hu1 hu2
      split at hc
      · rename_i hu3
        cases hc
        simp only [xpure] at hx
        obtain ⟨l, rfl, ⟨hl, hlb⟩, a', n', m', hu⟩ := xconv_b2s hs hx hr
        refine ⟨.string (bs l), ?_, by simp only [RepV]; exact ⟨trivial, hlb⟩⟩
        simp only [execOp]
        refine exec_v ?_
        rw [hu] at hl ⊢
        rw [run_convert_bytes_string c.w sr ds e _ _ _ hu1 hu3 hu2, hl]
      · cases hc
    · rename_i t hu1 hu2
      split at hc
      · rename_i n hsz
        cases hc
        simp only [xpure, xconv] at hx
        split at hx
        · rename_i r st k i o he
          simp only [Option.bind_eq_some_iff] at hx
          obtain ⟨cs, hcs, hx⟩ := hx
          split at hx
          · rename_i hlt
            cases hx
            rw [he] at hr
            have hv := hr.p_live (live_of_cells hcs)
            obtain ⟨arr, T, fzr, fz, g1, g2, g3, g4, g5⟩ := hs.cells hcs
            unfold tsz at hsz
            simp only [Option.map_eq_some_iff] at hsz
            obtain ⟨j, hj, hjs⟩ := hsz
            refine ⟨a.eval y, ?_, hr⟩
            simp only [execOp]
            refine exec_v ?_
            rw [hv]
            exact Lib.run_to_unsafe (P := P.toProgram) c.w ⟨(c.loc r).1, (c.loc r).2 + (i * k + o), none⟩ hu1 hu2 hj (by omega) (e := T) (cells := arr.size) (by simp only [World.shape?, g1]) (by show (c.loc r).2 + (i * k + o) < arr.size; omega)
          · cases hx
        · cases hx
      · cases hc
    · repeat' (split at hc)
      all_goals first
        | (cases hc; done)
        | (cases hc; simp [xpure] at hx)
    · rename_i t hu1 hu2
      split at hc
      · rename_i n hsz
        cases hc
        simp only [xpure, xconv] at hx
        split at hx
        · rename_i r st k i o he
          split at hx
          · rename_i st' T fz cs hat
            split at hx
            · rename_i hcond
              obtain ⟨rfl, h0, hn, hf1⟩ := hcond
              cases hx
              rw [he] at hr
              have hr' := hr
              simp only [RepV] at hr'
              have hv := hr'.2.2 _ hat rfl
              obtain ⟨q1, _⟩ := Store.at_some hat
              obtain ⟨b1, _⟩ := hs.blk _ _ q1
              simp only [BlkRep] at b1
              obtain ⟨arr, fzr, e1, e2, e3, e4⟩ := b1.2 trivial
              have d0 := (e2.2 hf1).2
              rw [d0] at hv e3
              rw [Nat.zero_add] at hv e3
              have hco : P.toProgram.cellsOf T = n + 1 := by
                unfold Program.cellsOf
                unfold tsz at hsz
                rw [hsz]; rfl
              unfold tsz at hsz
              simp only [Option.map_eq_some_iff] at hsz
              obtain ⟨j, hj, hjs⟩ := hsz
              refine ⟨a.eval y, ?_, hr⟩
              simp only [execOp]
              refine exec_v ?_
              rw [hv]
              refine Lib.run_from_unsafe (P := P.toProgram) c.w ⟨(c.loc r).1, i * k + o, none⟩ hu1 hu2 hj (e := T) (cells := arr.size) (by simp only [World.shape?, e1]) ?_
              have hd : P.toProgram.depth = (2 * (P.types.size + Made.depth) + 1) + 1 := rfl
              have hcnt : 1 ≤ arr.size / (n + 1) := (Nat.le_div_iff_mul_le (Nat.succ_pos n)).2 (by omega)
              simp only [h0]
              rw [hd]
              simp only [liesAt, Bool.or_eq_true]
              left
              rw [hd]
              simp [rowAt, hco, hcnt, sameLayout]
            · cases hx
          · cases hx
        · cases hx
      · cases hc
    · cases hc
  case makeInterface t y =>
    split at hc
    · cases hc
    · cases hc
    · rename_i hn hm
      simp only [Option.map_eq_some_iff] at hc
      obtain ⟨y1, h1, rfl⟩ := hc
      simp only [xpure, Option.some.injEq] at hx
      subst hx
      have hr := compO_rep hs ht h1
      refine ⟨.iface t (a.eval y), ?_, by simp only [RepV]; exact ⟨_, rfl, hr⟩⟩
      simp only [execOp]
      refine exec_v ?_
      cases hu : P.underlying t with
      | none => exact absurd hu hm
      | some d =>
        cases d <;> simp [Instr.makeInterface, run_und hu]
        exact absurd hu (hn _)
  case makeFunc f first cap =>
    simp only [Option.map_eq_some_iff, Option.bind_eq_some_iff] at hc
    obtain ⟨y1, h1, z1, h2, rfl⟩ := hc
    simp only [xpure, Option.some.injEq] at hx
    subst hx
    refine ⟨.func f (first.map a.eval) (cap.map a.eval), by simp [execOp, Instr.makeFunc], ?_⟩
    simp only [RepV]
    exact ⟨_, _, rfl, by rw [Array.toList_map]; exact compOs_rep hs ht h1, by rw [Array.toList_map]; exact compOs_rep hs ht h2⟩
  case makeSlice t y z =>
    split at hc
    · split at hc
      · split at hc
        · simp only [Option.map_eq_some_iff, Option.bind_eq_some_iff] at hc
          obtain ⟨_, _, _, _, rfl⟩ := hc
          simp [xpure] at hx
        · cases hc
      · cases hc
    · cases hc
  case slice t y lo hi mx =>
    simp only [Option.bind_eq_some_iff] at hc
    obtain ⟨y1, h1, lo1, h2, hi1, h3, mx1, h4, hc⟩ := hc
    have hr := compO_rep hs ht h1
    split at hc
    · rename_i hu
      split at hc
      · rename_i hmx
        cases hc
        have hmx' : mx = none := by
          cases mx with
          | none => rfl
          | some x => simp only [compOpt, Option.map_eq_some_iff] at h4; obtain ⟨q, _, rfl⟩ := h4; simp at hmx
        subst hmx'
        simp only [xpure] at hx
        split at hx
        · rename_i l he
          rw [he] at hr
          simp only [RepV] at hr
          simp only [Option.map_eq_some_iff] at hx
          obtain ⟨⟨p, q⟩, hb, rfl⟩ := hx
          obtain ⟨b1, b2, b3⟩ := bounds_sound (P := P) (c := c) hs ht h2 h3 hb false l.length (Nat.le_refl _) (fun _ => rfl)
          refine ⟨.string (bs ((l.take q).drop p)), ?_, by simp only [RepV]; exact ⟨trivial, fun x hx => hr.2 x (List.mem_of_mem_take (List.mem_of_mem_drop hx))⟩⟩
          simp only [execOp]
          refine exec_v ?_
          have hsz : (bs l).size = l.length := bs_size l
          simp only [hr.1, Instr.sliceAt, Sem.run_bind, run_und hu, Result.andThen_ok, Instr.slice, Option.map_none, Option.isSome_none, Bool.false_eq_true, if_false, Sem.run_pure, hsz, b1]
          congr 2
          apply ByteArray.ext
          simp [bs, List.take_drop, show p + (q - p) = q from by omega, List.map_drop, List.map_take]
        · cases hx
      · cases hc
    · rename_i e hu
      simp only [Option.map_eq_some_iff] at hc
      obtain ⟨k, hk, rfl⟩ := hc
      simp only [xpure] at hx
      obtain ⟨u, hu1, hu2⟩ := xlsl_sound hs ht hu hk h2 h3 h4 hx hr
      exact ⟨u, by simp only [execOp]; exact exec_v hu1, hu2⟩
    · rename_i n e hu
      simp only [Option.bind_eq_some_iff] at hc
      obtain ⟨k, hk, hc⟩ := hc
      split at hc
      · rename_i hmx
        cases hc
        have hmx' : mx = none := by
          cases mx with
          | none => rfl
          | some x => simp only [compOpt, Option.map_eq_some_iff] at h4; obtain ⟨q, _, rfl⟩ := h4; simp at hmx
        subst hmx'
        simp only [xpure] at hx
        obtain ⟨u, hu1, hu2⟩ := xasl_sound hs ht hu hk h2 h3 hx hr
        exact ⟨u, by simp only [execOp]; exact exec_v hu1, hu2⟩
      · cases hc
    · cases hc
  case fieldAddr s0 y f =>
    simp only [Option.bind_eq_some_iff] at hc
    obtain ⟨y1, h1, hc⟩ := hc
    have hr := compO_rep hs ht h1
    split at hc
    · rename_i fs hu
      split at hc
      · rename_i fd hf
        simp only [Option.bind_eq_some_iff] at hc
        obtain ⟨n, hn, hc⟩ := hc
        split at hc
        · cases hc
        · rename_i hn0
          cases hc
          simp only [xpure] at hx
          split at hx
          · rename_i r st k i o he
            rw [he] at hr
            split at hx
            · rename_i hl
              cases hx
              have hv := hr.p_live hl
              refine ⟨.pointer (some ⟨(c.loc r).1, (c.loc r).2 + (i * k + (o + fd.offset)), none⟩), ?_, ?_⟩
              · simp only [execOp]
                refine exec_v ?_
                simp only [hv, Instr.fieldAt, Sem.run_bind, run_und hu, Result.andThen_ok, hf, Instr.sureAddr, Sem.run_pure, fieldPlace, run_tsz hn, hn0, if_false, add_none]
                simp [Nat.add_assoc]
              · simp only [RepV] at hr ⊢
                exact ⟨⟨_, rfl⟩, hr.2.1, fun _ _ _ => trivial⟩
            · cases hx
          · rename_i cs k i o he
            rw [he] at hr
            cases hx
            simp only [RepV] at hr
            obtain ⟨b, off, hv, q1, q2⟩ := hr
            refine ⟨.pointer (some ⟨b, off + (i * k + (o + fd.offset)), none⟩), ?_, ?_⟩
            · simp only [execOp]
              refine exec_v ?_
              simp only [hv, Instr.fieldAt, Sem.run_bind, run_und hu, Result.andThen_ok, hf, Instr.sureAddr, Sem.run_pure, fieldPlace, run_tsz hn, hn0, if_false, add_none]
              simp [Nat.add_assoc]
            · simp only [RepV]
              exact ⟨b, off, rfl, q1, q2⟩
          · cases hx
      · cases hc
    · cases hc
  case field t y f =>
    simp only [Option.bind_eq_some_iff] at hc
    obtain ⟨y1, h1, hc⟩ := hc
    have hr := compO_rep hs ht h1
    split at hc
    · rename_i fs hu
      split at hc
      · rename_i fd hf
        simp only [Option.bind_eq_some_iff, Option.map_eq_some_iff] at hc
        obtain ⟨g, hg, n, hn, rfl⟩ := hc
        simp only [xpure] at hx
        split at hx
        · rename_i l he
          rw [he] at hr
          split at hx
          · rename_i hle
            simp only [RepV] at hr
            obtain ⟨cs, hv, r1, r2⟩ := hr
            have hlen := r1.length
            have q1 : RepL c ((l.drop fd.offset).take n) ((cs.toList.drop fd.offset).take n) := (r1.drop _).take _
            obtain ⟨p1, p2⟩ := packV_rep hx q1 (fun y hy => r2 y (List.mem_of_mem_drop (List.mem_of_mem_take hy)))
            cases g with
            | true =>
              refine ⟨_, ?_, p1 rfl⟩
              simp only [execOp]
              refine exec_v ?_
              simp only [hv, Instr.field, Sem.run_bind, run_und hu, Result.andThen_ok, hf, asAgg, Sem.run_pure, part, run_tagg hg, if_true, run_tsz hn]
              congr 2
              apply Array.toList_inj.1
              simp [List.take_drop]
            | false =>
              obtain ⟨y', hy1, hy2⟩ := p2 rfl
              refine ⟨y', ?_, hy2⟩
              simp only [execOp]
              refine exec_v ?_
              have hget : cs[fd.offset]? = some y' := by
                have : (cs.toList.drop fd.offset)[0]? = some y' := by
                  have h0 : ((cs.toList.drop fd.offset).take n)[0]? = some y' := by rw [hy1]; rfl
                  rw [List.getElem?_take] at h0
                  split at h0
                  · exact h0
                  · cases h0
                rw [List.getElem?_drop] at this
                simpa using this
              simp [hv, Instr.field, run_und hu, hf, asAgg, part, run_tagg hg, hget]
          · cases hx
        · cases hx
      · cases hc
    · cases hc
  case indexAddr t y z =>
    simp only [Option.bind_eq_some_iff] at hc
    obtain ⟨y1, h1, z1, h2, hc⟩ := hc
    have hr1 := compO_rep hs ht h1
    have hr2 := compO_rep hs ht h2
    split at hc
    · rename_i e hu
      simp only [Option.map_eq_some_iff] at hc
      obtain ⟨k, hk, rfl⟩ := hc
      simp only [xpure, Option.bind_eq_some_iff] at hx
      obtain ⟨j, hj, hx⟩ := hx
      obtain ⟨ki, hi⟩ := int_of hr2 hj
      split at hx
      · rename_i k' n cs _ he
        rw [he] at hr1
        split at hx
        · rename_i hcond
          obtain ⟨rfl, hj0, hj1⟩ := hcond
          cases hx
          simp only [RepV] at hr1
          obtain ⟨h0, hv⟩ := hr1
          rcases hv with ⟨rfl, rfl, hv⟩ | ⟨b, off, cap, hv, hcap, hown, hat⟩
          · omega
          · refine ⟨.pointer (some ⟨b, off + (j.toNat * k' + 0), none⟩), ?_, by simp only [RepV]; exact ⟨b, off, rfl, hown, hat⟩⟩
            simp only [execOp]
            refine exec_v ?_
            simp [hv, hi, Instr.indexAt, asIntOf, run_und hu, hj0, hj1, run_tsz hk, add_none]
        · cases hx
      · rename_i r st i n k' _ he
        rw [he] at hr1
        split at hx
        · rename_i hcond
          obtain ⟨rfl, hj0, hj1, hlive⟩ := hcond
          cases hx
          simp only [RepV] at hr1
          obtain ⟨bl, hbl, hvirt⟩ := live_of hlive
          obtain ⟨off, cap, arr, T, fz, hv, hcap, e3, e4⟩ := (hr1.2.2 bl hbl).2 hvirt
          obtain ⟨w1, w2⟩ := e4 (by omega)
          refine ⟨.pointer (some ⟨(c.loc r).1, (c.loc r).2 + ((i + j.toNat) * k' + 0), none⟩), ?_, by simp only [RepV]; exact ⟨⟨_, rfl⟩, hr1.2.1, fun _ _ _ => trivial⟩⟩
          simp only [execOp]
          refine exec_v ?_
          simp [hv, hi, Instr.indexAt, asIntOf, run_und hu, hj0, hj1, run_tsz hk, add_none, w1, Nat.add_mul, Nat.add_assoc]
        · cases hx
      · rename_i h _; cases h
      · rename_i h _; cases h
      · cases hx
    · rename_i n e hu
      split at hc
      · cases hc
      · rename_i hn1
        simp only [Option.map_eq_some_iff] at hc
        obtain ⟨k, hk, rfl⟩ := hc
        simp only [xpure, Option.bind_eq_some_iff] at hx
        obtain ⟨j, hj, hx⟩ := hx
        obtain ⟨ki, hi⟩ := int_of hr2 hj
        split at hx
        · rename_i h _; cases h
        · rename_i h _; cases h
        · rename_i len r st k' i o hl he
          cases hl
          rw [he] at hr1
          split at hx
          · rename_i hcond
            obtain ⟨hj0, hj1, hlive⟩ := hcond
            cases hx
            have hv := hr1.p_live hlive
            refine ⟨.pointer (some ⟨(c.loc r).1, (c.loc r).2 + (i * k' + (o + j.toNat * k)), none⟩), ?_, by simp only [RepV] at hr1 ⊢; exact ⟨⟨_, rfl⟩, hr1.2.1, fun _ _ _ => trivial⟩⟩
            simp only [execOp]
            refine exec_v ?_
            simp [hv, hi, Instr.indexAt, asIntOf, run_und hu, hj0, hj1, run_tsz hk, add_none, Instr.sureAddr, Nat.add_assoc]
          · cases hx
        · rename_i len cs k' i o hl he
          cases hl
          rw [he] at hr1
          split at hx
          · rename_i hcond
            obtain ⟨hj0, hj1⟩ := hcond
            cases hx
            simp only [RepV] at hr1
            obtain ⟨b, off, hv, hown, hat⟩ := hr1
            refine ⟨.pointer (some ⟨b, off + (i * k' + (o + j.toNat * k)), none⟩), ?_, by simp only [RepV]; exact ⟨b, off, rfl, hown, hat⟩⟩
            simp only [execOp]
            refine exec_v ?_
            simp [hv, hi, Instr.indexAt, asIntOf, run_und hu, hj0, hj1, run_tsz hk, add_none, Instr.sureAddr, Nat.add_assoc]
          · cases hx
        · cases hx
    · cases hc
  case index t y z =>
    simp only [Option.bind_eq_some_iff] at hc
    obtain ⟨y1, h1, z1, h2, hc⟩ := hc
    have hr1 := compO_rep hs ht h1
    have hr2 := compO_rep hs ht h2
    split at hc
    · rename_i hu
      cases hc
      simp only [xpure, Option.bind_eq_some_iff] at hx
      obtain ⟨j, hj, hx⟩ := hx
      obtain ⟨ki, hi⟩ := int_of hr2 hj
      split at hx
      · rename_i l he
        rw [he] at hr1
        simp only [RepV] at hr1
        split at hx
        · rename_i hj0
          simp only [Option.map_eq_some_iff] at hx
          obtain ⟨b, hb, rfl⟩ := hx
          refine ⟨.int .u8 (b : Int), ?_, by simp [RepV]⟩
          simp only [execOp]
          refine exec_v ?_
          have hb8 : b < 256 := hr1.2 b (List.mem_of_getElem? hb)
          have hget : (bs l)[j.toNat]? = some (UInt8.ofNat b) := by
            have : j.toNat < l.length := by
              rcases Nat.lt_or_ge j.toNat l.length with h | h
              · exact h
              · rw [List.getElem?_eq_none h] at hb; cases hb
            rw [List.getElem?_eq_getElem this] at hb
            cases hb
            have hs : j.toNat < (bs l).size := by rw [bs_size]; exact this
            rw [getElem?_pos (bs l) j.toNat hs]
            show some ((l.map UInt8.ofNat).toArray[j.toNat]'(by simpa using this)) = _
            rw [List.getElem_toArray, List.getElem_map]
          simp [hr1.1, hi, Instr.index, asIntOf, run_und hu, hj0, hget, Nat.mod_eq_of_lt hb8]
        · cases hx
      · cases hx
    · rename_i n e hu
      simp only [Option.map_eq_some_iff, Option.bind_eq_some_iff] at hc
      obtain ⟨g, hg, k, hk, rfl⟩ := hc
      simp only [xpure, Option.bind_eq_some_iff] at hx
      obtain ⟨j, hj, hx⟩ := hx
      obtain ⟨ki, hi⟩ := int_of hr2 hj
      split at hx
      · rename_i l he
        rw [he] at hr1
        split at hx
        · rename_i hcond
          obtain ⟨hj0, hj1, hle⟩ := hcond
          simp only [RepV] at hr1
          obtain ⟨cs, hv, r1, r2⟩ := hr1
          have q1 : RepL c ((l.drop (j.toNat * k)).take k) ((cs.toList.drop (j.toNat * k)).take k) := (r1.drop _).take _
          obtain ⟨p1, p2⟩ := packV_rep hx q1 (fun y hy => r2 y (List.mem_of_mem_drop (List.mem_of_mem_take hy)))
          cases g with
          | true =>
            refine ⟨_, ?_, p1 rfl⟩
            simp only [execOp]
            refine exec_v ?_
            simp only [hv, hi, Instr.index, Sem.run_bind, asIntOf, Sem.run_pure, run_und hu, Result.andThen_ok, hj0, hj1, and_self, if_true, run_tsz hk, part, run_tagg hg]
            congr 2
            apply Array.toList_inj.1
            simp [List.take_drop]
          | false =>
            obtain ⟨y', hy1, hy2⟩ := p2 rfl
            refine ⟨y', ?_, hy2⟩
            simp only [execOp]
            refine exec_v ?_
            have hget : cs[j.toNat * k]? = some y' := by
              have h0 : ((cs.toList.drop (j.toNat * k)).take k)[0]? = some y' := by rw [hy1]; rfl
              rw [List.getElem?_take] at h0
              split at h0
              · rw [List.getElem?_drop] at h0; simpa using h0
              · cases h0
            simp [hv, hi, Instr.index, asIntOf, run_und hu, hj0, hj1, run_tsz hk, part, run_tagg hg, hget]
        · cases hx
      · cases hx
    · cases hc
  case extract y n =>
    simp only [Option.map_eq_some_iff] at hc
    obtain ⟨y1, h1, rfl⟩ := hc
    have hr := compO_rep hs ht h1
    simp only [xpure] at hx
    split at hx
    · rename_i l he
      rw [he] at hr
      simp only [RepV] at hr
      obtain ⟨cs, hv, r1⟩ := hr
      obtain ⟨u, hu1, hu2⟩ := r1.get hx
      refine ⟨u, ?_, hu2⟩
      simp only [execOp]
      refine exec_v ?_
      have : cs[n]? = some u := by simpa using hu1
      simp [hv, Instr.extract, this]
    · cases hx
  case call cl =>
    unfold compCall at hc
    split at hc
    · simp only [Option.map_eq_some_iff, Option.bind_eq_some_iff] at hc
      obtain ⟨g, hg, as, has, rfl⟩ := hc
      simp [xpure] at hx
    · rename_i hb
      split at hc
      · rename_i t ht0
        have key : ∀ {as : List XO} {str : Bool}, compOs P cl.args.toList = some as → x = .bi (.len str) as → (str = true → P.underlying t = some .string) → (str = false → ∃ e, P.underlying t = some (.slice e)) →
            ∃ u, (execOp a.eval ⟨dst, .call cl, type, pos, after, guard⟩).run P c.w = .ok (.value u) c.w ∧ RepV c v u := by
          intro as str has hxx hty1 hty2
          subst hxx
          have hrl := compOs_rep (c := c) hs ht has
          cases as with
          | nil => simp [xpure] at hx
          | cons x1 as =>
            cases as with
            | cons x2 as => simp [xpure] at hx
            | nil =>
              simp only [List.map_cons, List.map_nil, RepL] at hrl
              obtain ⟨y, ys, hy, hr, hys⟩ := hrl
              subst hys
              have hargs : cl.args.map a.eval = #[y] := by apply Array.toList_inj.1; simpa using hy
              have fin : ∀ {n : Nat}, (Builtin.len_ cl.argTypes type #[y]).run P c.w = .ok (goInt n) c.w → v = .i .i64 n →
                  ∃ u, (execOp a.eval ⟨dst, .call cl, type, pos, after, guard⟩).run P c.w = .ok (.value u) c.w ∧ RepV c v u := by
                intro n hn hv
                subst hv
                exact ⟨goInt n, by simp [execOp, resolve, hb, invoke, builtin, hargs, hn], by simp [RepV, goInt]⟩
              simp only [xpure] at hx
              split at hx
              · rename_i l he
                cases hx
                rw [he] at hr
                simp only [RepV] at hr
                obtain ⟨rfl, hrb⟩ := hr
                have hsz : (bs l).size = l.length := bs_size l
                exact fin (n := l.length) (by simp [Builtin.len_, ht0, run_und (hty1 rfl), hsz]) rfl
              · rename_i k n cs he
                cases hx
                rw [he] at hr
                simp only [RepV] at hr
                obtain ⟨e, hu⟩ := hty2 rfl
                rcases hr.2 with ⟨_, rfl, rfl⟩ | ⟨b, off, cap, rfl, _⟩
                · exact fin (by simp [Builtin.len_, ht0, run_und hu]) rfl
                · exact fin (by simp [Builtin.len_, ht0, run_und hu]) rfl
              · rename_i he
                cases hx
                rw [he] at hr
                simp only [RepV] at hr
                obtain ⟨e, hu⟩ := hty2 rfl
                subst hr
                exact fin (n := 0) (by simp [Builtin.len_, ht0, run_und hu]) rfl
              · rename_i he
                cases hx
                rw [he] at hr
                simp only [RepV] at hr
                obtain ⟨e, hu⟩ := hty2 rfl
                obtain ⟨b, rfl, _⟩ := hr
                exact fin (n := 0) (by simp [Builtin.len_, ht0, run_und hu]) rfl
              · rename_i n k he
                cases hx
                rw [he] at hr
                simp only [RepV] at hr
                obtain ⟨e, hu⟩ := hty2 rfl
                obtain ⟨⟨b, cap, rfl⟩, _⟩ := hr
                exact fin (by simp [Builtin.len_, ht0, run_und hu]) rfl
              · cases hx
        split at hc
        · rename_i hu; simp only [Option.map_eq_some_iff] at hc; obtain ⟨as, has, rfl⟩ := hc; exact key has rfl (fun _ => hu) (by simp)
        · rename_i e hu; simp only [Option.map_eq_some_iff] at hc; obtain ⟨as, has, rfl⟩ := hc; exact key has rfl (by simp) (fun _ => ⟨e, hu⟩)
        · rename_i kt et hu
          split at hc
          · rename_i y hy
            simp only [Option.map_eq_some_iff] at hc
            obtain ⟨x1, h1, rfl⟩ := hc
            have hr := compO_rep hs ht h1
            have hargs : cl.args.map a.eval = #[a.eval y] := by apply Array.toList_inj.1; simp [hy]
            simp only [xpure, Option.map_eq_some_iff] at hx
            obtain ⟨es, hes, rfl⟩ := hx
            rcases mapEs_rep hs hes hr with ⟨hv, rfl⟩ | ⟨b, ck, arr, hv, hb', hre⟩
            · exact ⟨goInt 0, by simp [execOp, resolve, hb, invoke, builtin, hargs, hv, Builtin.len_, ht0, run_und hu], by simp [RepV, goInt]⟩
            · have hl := hre.length
              exact ⟨goInt arr.size, by simp [execOp, resolve, hb, invoke, builtin, hargs, hv, Builtin.len_, ht0, run_und hu, run_getMap hb'], by simp [RepV, goInt, hl]⟩
          · cases hc
        · cases hc
      · cases hc
    · rename_i hb
      simp only [Option.map_eq_some_iff] at hc
      obtain ⟨as, has, rfl⟩ := hc
      have hrl := compOs_rep (c := c) hs ht has
      cases as with
      | nil => simp [xpure] at hx
      | cons x1 as =>
        simp only [xpure] at hx
        split at hx
        · rename_i k p he
          simp only [List.map_cons, RepL] at hrl
          obtain ⟨y, ys, hy, hr, hys⟩ := hrl
          rw [he] at hr
          simp only [RepV] at hr
          subst hr
          obtain ⟨u, hu1, hu2⟩ := fold_min (P := P) hx hys
          refine ⟨u, ?_, hu2⟩
          simp [execOp, resolve, hb, invoke, builtin, Builtin.min_, hy, hu1]
        · cases hx
    · rename_i hb
      simp only [Option.map_eq_some_iff] at hc
      obtain ⟨as, has, rfl⟩ := hc
      have hrl := compOs_rep (c := c) hs ht has
      cases as with
      | nil => simp [xpure] at hx
      | cons x1 as =>
        simp only [xpure] at hx
        split at hx
        · rename_i k p he
          simp only [List.map_cons, RepL] at hrl
          obtain ⟨y, ys, hy, hr, hys⟩ := hrl
          rw [he] at hr
          simp only [RepV] at hr
          subst hr
          obtain ⟨u, hu1, hu2⟩ := fold_max (P := P) hx hys
          refine ⟨u, ?_, hu2⟩
          simp [execOp, resolve, hb, invoke, builtin, Builtin.max_, hy, hu1]
        · cases hx
    · repeat' (split at hc)
      all_goals first
        | (cases hc; done)
        | (simp only [Option.map_eq_some_iff] at hc
           obtain ⟨as, has, rfl⟩ := hc
           simp [xpure] at hx)
    · rename_i hb
      split at hc
      · rename_i t ht0
        split at hc
        · rename_i e hu
          simp only [Option.map_eq_some_iff, Option.bind_eq_some_iff] at hc
          obtain ⟨k, hk, as, has, rfl⟩ := hc
          have hrl := compOs_rep (c := c) hs ht has
          match as, has, hx, hrl with
          | [], _, hx, _ => simp [xpure] at hx
          | _ :: _ :: _, _, hx, _ => simp [xpure] at hx
          | [x1], _, hx, hrl =>
            simp only [List.map_cons, List.map_nil, RepL] at hrl
            obtain ⟨y, ys, hy, hr, hys⟩ := hrl
            subst hys
            have hargs : cl.args.map a.eval = #[y] := by apply Array.toList_inj.1; simpa using hy
            simp only [xpure] at hx
            split at hx
            · rename_i he
              cases hx
              rw [he] at hr
              simp only [RepV] at hr
              subst hr
              exact ⟨.pointer none, by simp [execOp, resolve, hb, invoke, builtin, hargs, Lib.run_unsafeSliceData_nil], by simp [RepV]⟩
            · rename_i r st i n k' he
              split at hx
              · rename_i hcond
                obtain ⟨rfl, hn⟩ := hcond
                simp only [Option.map_eq_some_iff] at hx
                obtain ⟨cs, hcs, rfl⟩ := hx
                rw [he] at hr
                simp only [RepV] at hr
                obtain ⟨_, hst, hr⟩ := hr
                obtain ⟨st', T0, fz0, hat⟩ := live_of_cells' hcs
                obtain ⟨off, cap, arr, T, fz, hv, hle, _, hoff⟩ := (hr _ hat).2 rfl
                have hc0 : cap ≠ 0 := by omega
                obtain ⟨ho, _⟩ := hoff hc0
                refine ⟨.pointer (some ⟨(c.loc r).1, off, none⟩), by simp [execOp, resolve, hb, invoke, builtin, hargs, hv, Lib.run_unsafeSliceData_row (P := P.toProgram) c.w _ _ _ n cap hc0], ?_⟩
                simp only [RepV]
                exact ⟨⟨_, rfl⟩, hst, fun blk _ _ => by rw [ho]; rfl⟩
              · cases hx
            · cases hx
        · cases hc
      · cases hc
    · repeat' (split at hc)
      all_goals first
        | (cases hc; done)
        | (simp only [Option.map_eq_some_iff] at hc
           obtain ⟨as, has, rfl⟩ := hc
           simp [xpure] at hx)
    · rename_i hb
      split at hc
      · rename_i t ht0
        split at hc
        · rename_i e hu
          simp only [Option.map_eq_some_iff] at hc
          obtain ⟨as, has, rfl⟩ := hc
          have hrl := compOs_rep (c := c) hs ht has
          match as, has, hx, hrl with
          | [], _, hx, _ => simp [xpure] at hx
          | _ :: _ :: _, _, hx, _ => simp [xpure] at hx
          | [x1], _, hx, hrl =>
            simp only [List.map_cons, List.map_nil, RepL] at hrl
            obtain ⟨y, ys, hy, hr, hys⟩ := hrl
            subst hys
            have hargs : cl.args.map a.eval = #[y] := by apply Array.toList_inj.1; simpa using hy
            simp only [xpure] at hx
            split at hx
            · rename_i he
              cases hx
              rw [he] at hr
              simp only [RepV] at hr
              subst hr
              exact ⟨goInt 0, by simp [execOp, resolve, hb, invoke, builtin, hargs, Builtin.cap_, ht0, run_und hu], by simp [RepV, goInt]⟩
            · rename_i he
              cases hx
              rw [he] at hr
              simp only [RepV] at hr
              obtain ⟨b, rfl, _⟩ := hr
              exact ⟨goInt 0, by simp [execOp, resolve, hb, invoke, builtin, hargs, Builtin.cap_, ht0, run_und hu], by simp [RepV, goInt]⟩
            · cases hx
        · cases hc
      · cases hc
    · split at hc
      · split at hc
        · simp only [Option.map_eq_some_iff, Option.bind_eq_some_iff] at hc
          obtain ⟨_, _, _, _, _, _, rfl⟩ := hc
          simp [xpure] at hx
        · cases hc
      · cases hc
    · repeat' (split at hc)
      all_goals first
        | (cases hc; done)
        | (simp only [Option.map_eq_some_iff, Option.bind_eq_some_iff] at hc
           obtain ⟨_, _, _, _, _, _, rfl⟩ := hc
           simp [xpure] at hx)
    · split at hc
      · split at hc
        · simp only [Option.bind_eq_some_iff] at hc
          obtain ⟨_, _, _, _, hc⟩ := hc
          split at hc
          · simp only [Option.map_eq_some_iff] at hc
            obtain ⟨_, _, rfl⟩ := hc
            simp [xpure] at hx
          · cases hc
        · cases hc
      · cases hc
    · cases hc
  case range t y =>
    split at hc
    · simp only [Option.map_eq_some_iff] at hc
      obtain ⟨y1, h1, rfl⟩ := hc
      simp [xpure] at hx
    · simp only [Option.map_eq_some_iff] at hc
      obtain ⟨y1, h1, rfl⟩ := hc
      simp [xpure] at hx
    · cases hc
  case next y b =>
    cases b with
    | false =>
      simp only [Option.map_eq_some_iff] at hc
      obtain ⟨y1, h1, rfl⟩ := hc
      simp [xpure] at hx
    | true =>
      simp only [Option.map_eq_some_iff] at hc
      obtain ⟨y1, h1, rfl⟩ := hc
      simp [xpure] at hx
  case entry y =>
    simp only [Option.map_eq_some_iff] at hc
    obtain ⟨y1, h1, rfl⟩ := hc
    simp only [xpure] at hx
    obtain ⟨u, hu1, hu2⟩ := xent_sound hs hx (compO_rep hs ht h1)
    exact ⟨u, by simp only [execOp]; exact exec_v hu1, hu2⟩
  case makeMap t r =>
    cases r with
    | none => simp only [Option.some.injEq] at hc; subst hc; simp [xpure] at hx
    | some r => cases hc
  case lookup t y i ok =>
    split at hc
    · rename_i kt et hu
      simp only [Option.map_eq_some_iff, Option.bind_eq_some_iff] at hc
      obtain ⟨str, hk, z, hz, y1, h1, i1, h2, rfl⟩ := hc
      simp only [xpure] at hx
      obtain ⟨u, hu1, hu2⟩ := xmget_sound hs hu hk hz hx (compO_rep hs ht h1) (compO_rep hs ht h2)
      exact ⟨u, by simp only [execOp]; exact exec_v hu1, hu2⟩
    · cases hc
  case mapUpdate t y i vv =>
    split at hc
    · simp only [Option.map_eq_some_iff, Option.bind_eq_some_iff] at hc
      obtain ⟨_, _, _, _, _, _, _, _, rfl⟩ := hc
      simp [xpure] at hx
    · cases hc
  case insert t y i vv =>
    split at hc
    · simp only [Option.map_eq_some_iff, Option.bind_eq_some_iff] at hc
      obtain ⟨_, _, _, _, _, _, _, _, rfl⟩ := hc
      simp [xpure] at hx
    · cases hc
  all_goals cases hc
end
end Hb
end

section
set_option linter.unusedVariables false
set_option linter.unusedSimpArgs false
set_option linter.constructorNameAsVariable false
set_option autoImplicit false
set_option linter.unusedSimpArgs false
set_option linter.unusedVariables false
namespace Hb
open Go
section
variable {P : Prg}
theorem RepAt.same0 {c c' : Cx} (h : Ext0 c c') : ∀ {b off : Nat} {cs : List AV}, c'.w.heap[b]? = c.w.heap[b]? → RepAt c b off cs → RepAt c' b off cs
  | _, _, [], _, _ => by simp only [RepAt]
  | b, off, x :: xs, hb, hr => by
    simp only [RepAt] at hr ⊢
    obtain ⟨⟨y, h1, h1', h2⟩, h3⟩ := hr
    refine ⟨⟨y, ?_, h1', RepV.mono0 h x y h2⟩, RepAt.same0 h hb h3⟩
    rw [cell?_heap (a := ⟨b, off, none⟩) hb]
    exact h1
theorem RepAt.same {c c' : Cx} (h : Ext c c') {b off : Nat} {cs : List AV} (hb : c'.w.heap[b]? = c.w.heap[b]?) (hr : RepAt c b off cs) : RepAt c' b off cs := RepAt.same0 h.to0 hb hr
theorem RepT.mono0 {c c' : Cx} (h : Ext0 c c') {N : Nat} {ρ : Nat → AV} {tmps : Array Value} (ht : RepT c N ρ tmps) : RepT c' N ρ tmps :=
  ⟨ht.1, fun t => RepV.mono0 h _ _ (ht.2 t)⟩
theorem RepT.mono {c c' : Cx} (h : Ext c c') {N : Nat} {ρ : Nat → AV} {tmps : Array Value} (ht : RepT c N ρ tmps) : RepT c' N ρ tmps :=
  ⟨ht.1, fun t => RepV.mono h _ _ (ht.2 t)⟩
theorem RepE.mono0 {c c' : Cx} (h : Ext0 c c') : ∀ {es : List (AV × AV × Nat)} {l : List MapEntry}, RepE c es l → RepE c' es l
  | [], l, hr => hr
  | (k, v, b) :: es, l, hr => by
    simp only [RepE] at hr ⊢
    obtain ⟨e, l', h1, h2, h3, h4, h5⟩ := hr
    exact ⟨e, l', h1, RepV.mono0 h _ _ h2, RepV.mono0 h _ _ h3, h4, RepE.mono0 h h5⟩
theorem BlkRep.same0 {c c' : Cx} (he : Ext0 c c') {r : Nat} {b : Blk} (hι : c'.loc r = c.loc r) (hb : b.virt = false → c'.w.heap[(c.loc r).1]? = c.w.heap[(c.loc r).1]?) (h : BlkRep P c r b) : BlkRep P c' r b := by
  cases b with
  | cells st virt T fz cs =>
    simp only [BlkRep] at h ⊢
    refine ⟨h.1, fun hv => ?_⟩
    obtain ⟨arr, fzr, e1, e2, e3, e4⟩ := h.2 hv
    have hb' := hb hv
    rw [hι]
    exact ⟨arr, fzr, by rw [hb', e1], e2, e3, e4.same0 he hb'⟩
  | loop st state pending N ρ params xa xb dr ds =>
    simp only [BlkRep] at h ⊢
    obtain ⟨l, e1, e2, e3, e5, e6, e7, e8, e9, e10, e11⟩ := h
    refine ⟨l, by rw [hι, hb rfl, e1], e2, e3, e5.mono0 he, e6, e7, e8, e9, Nat.lt_of_lt_of_le e10 he.nx, fun b hb hv => ?_⟩
    obtain ⟨blk, g1, g2, g3⟩ := he.at e10 hb
    rw [g3 (g2.trans hv)]
    exact e11 blk g1 (g2.trans hv)
  | dfr st => simp only [BlkRep] at h ⊢; rw [hι, hb rfl, h]
  | iter st s pos => simp only [BlkRep] at h ⊢; rw [hι, hb rfl]; exact h
  | map st ck es =>
    simp only [BlkRep] at h ⊢
    obtain ⟨arr, e1, e2⟩ := h
    exact ⟨arr, by rw [hι, hb rfl]; exact e1, RepE.mono0 he e2⟩
  | miter st rm sm since last seen =>
    simp only [BlkRep] at h ⊢
    obtain ⟨m, e1, e2, e3⟩ := h
    refine ⟨m, by rw [hι, hb rfl]; exact e1, Nat.lt_of_lt_of_le e2 he.nx, fun b hb hv => ?_⟩
    obtain ⟨blk, g1, g2, g3⟩ := he.at e2 hb
    rw [g3 (g2.trans hv)]
    exact e3 blk g1 (g2.trans hv)
  | miti st ck bs ks seen =>
    simp only [BlkRep] at h ⊢
    obtain ⟨m, arr, e1, e2, e3, e4, e5⟩ := h
    exact ⟨m, arr, by rw [hι, hb rfl]; exact e1, he.n0 m e2, (he.keep0 m e2).trans e3, e4, RepL.mono0 he ks _ e5⟩
theorem Sim.lt {c : Cx} (hs : Sim P c) {r : Nat} {b : Blk} (h : c.σ[r]? = some (some b)) (hv : b.virt = false) : (c.loc r).1 < c.w.heap.size := by
  obtain ⟨k, _⟩ := hs.blk r b h
  have lt : ∀ {o : Obj}, c.w.heap[(c.loc r).1]? = some o → (c.loc r).1 < c.w.heap.size := fun h => (Array.getElem?_eq_some_iff.1 h).1
  cases b with
  | cells st virt T fz cs => simp only [BlkRep] at k; obtain ⟨arr, fzr, e1, _⟩ := k.2 hv; exact lt e1
  | loop => simp only [BlkRep] at k; obtain ⟨l, e1, _⟩ := k; exact lt e1
  | dfr => simp only [BlkRep] at k; exact lt k
  | iter => simp only [BlkRep] at k; exact lt k.1
  | map => simp only [BlkRep] at k; obtain ⟨arr, e1, _⟩ := k; exact lt e1
  | miter => simp only [BlkRep] at k; obtain ⟨m, e1, _⟩ := k; exact lt e1
  | miti => simp only [BlkRep] at k; obtain ⟨m, arr, e1, _⟩ := k; exact lt e1
theorem Sim.gen0 {c c' : Cx} (hs : Sim P c) (he : Ext0 c c') (hn0 : ∀ b, c'.n0 b → c.n0 b ∨ c.w.heap.size ≤ b) (hlt : ∀ r b, c.σ[r]? = some (some b) → b.virt = false → (c.loc r).1 < c.w.heap.size) (hsz : ∀ b, c'.n0 b → b < c'.w.heap.size)
    (h : ∀ r b', c'.σ[r]? = some (some b') →
      (c.σ[r]? = some (some b') ∧ c'.loc r = c.loc r ∧ (b'.virt = false → c'.w.heap[(c.loc r).1]? = c.w.heap[(c.loc r).1]?)) ∨
      (BlkRep P c' r b' ∧ b'.st < c'.nx ∧ (b'.virt = false → ¬ c'.n0 (c'.loc r).1 ∧ ∀ r2 b2, r2 ≠ r → c'.σ[r2]? = some (some b2) → b2.virt = false → (c'.loc r2).1 ≠ (c'.loc r).1))) : Sim P c' where
  blk r b hr := by
    rcases h r b hr with ⟨h1, h2, h3⟩ | ⟨h1, h2, _⟩
    · obtain ⟨k1, k2⟩ := hs.blk r b h1
      exact ⟨k1.same0 he h2 h3, Nat.lt_of_lt_of_le k2 he.nx⟩
    · exact ⟨h1, h2⟩
  inj r r' b b' hr hr' hv hv' hι := by
    rcases Nat.decEq r r' with hne | heq
    · exfalso
      rcases h r b hr with ⟨h1, h2, h3⟩ | ⟨_, _, h3⟩
      · rcases h r' b' hr' with ⟨k1, k2, k3⟩ | ⟨_, _, k3⟩
        · exact hne (hs.inj r r' b b' h1 k1 hv hv' (by rw [← h2, ← k2]; exact hι))
        · exact (k3 hv').2 r b hne hr hv hι
      · exact (h3 hv).2 r' b' (fun e => hne e.symm) hr' hv' hι.symm
    · exact heq
  base r b hr hv := by
    rcases h r b hr with ⟨h1, h2, h3⟩ | ⟨_, _, h3⟩
    · rw [h2]; intro hc; rcases hn0 _ hc with hc | hc
      · exact hs.base r b h1 hv hc
      · exact Nat.lt_irrefl _ (Nat.lt_of_lt_of_le (hlt r b h1 hv) hc)
    · exact (h3 hv).1
  n0 := hsz
  glob g cs hg := by
    obtain ⟨h1, h2⟩ := hs.glob g cs hg
    exact ⟨he.n0 _ h1, h2.same0 he (he.keep0 g h1)⟩
theorem Sim.gen {c c' : Cx} (hs : Sim P c) (he : Ext c c')
    (h : ∀ r b', c'.σ[r]? = some (some b') →
      (c.σ[r]? = some (some b') ∧ c'.loc r = c.loc r ∧ (b'.virt = false → c'.w.heap[(c.loc r).1]? = c.w.heap[(c.loc r).1]?)) ∨
      (BlkRep P c' r b' ∧ b'.st < c'.nx ∧ (b'.virt = false → ¬ c'.n0 (c'.loc r).1 ∧ ∀ r2 b2, r2 ≠ r → c'.σ[r2]? = some (some b2) → b2.virt = false → (c'.loc r2).1 ≠ (c'.loc r).1))) (h0 : c'.n0 = c.n0 := by rfl) : Sim P c' :=
  hs.gen0 he.to0 he.new0 (fun r b h hv => hs.lt h hv) (fun b hb => Nat.lt_of_lt_of_le (hs.n0 b (h0 ▸ hb)) he.size) h
theorem Sim.ground {c : Cx} (hs : Sim P c) {r : Nat} {b : Blk} (hr : c.σ[r]? = some (some b)) (hv : b.virt = false) {x : Nat} (hx : c.n0 x) : x ≠ (c.loc r).1 := by
  rintro rfl
  exact hs.base r b hr hv hx
theorem heap_alloc_lt (w : World) (o : Obj) {b : Nat} (h : b < w.heap.size) : (w.alloc o).heap[b]? = w.heap[b]? := by
  show (w.heap.push o)[b]? = _
  rw [Array.getElem?_push, if_neg (by omega)]
theorem heap_alloc_new (w : World) (o : Obj) : (w.alloc o).heap[w.heap.size]? = some o := World.alloc_heap_new w o
def upd {α : Type} (f : Nat → α) (r : Nat) (x : α) : Nat → α := fun n => if n = r then x else f n
@[simp] theorem upd_same {α : Type} (f : Nat → α) (r : Nat) (x : α) : upd f r x r = x := by simp [upd]
theorem upd_ne {α : Type} (f : Nat → α) {r n : Nat} (x : α) (h : n ≠ r) : upd f r x n = f n := by simp [upd, h]
def Cx.alloc (c : Cx) (o : Obj) : Cx := { c with w := c.w.alloc o }
theorem Ext.alloc (c : Cx) (o : Obj) (hs : Sim P c) : Ext c (c.alloc o) where
  keep b hb _ := heap_alloc_lt c.w o hb
  own b hb h := h
  size := by simp [Cx.alloc]
  live r blk h _ := ⟨blk, h, rfl, rfl, fun _ => rfl⟩
  nx := Nat.le_refl _
  sz b arr T fz h := ⟨arr, fz, by rw [← h]; exact heap_alloc_lt c.w o (Array.getElem?_eq_some_iff.1 h).1, rfl⟩
  os := rfl
  tape := rfl
  output := rfl
  n0 _ h := h
  new0 _ h := .inl h
  keep0 b hb := heap_alloc_lt c.w o (hs.n0 b hb)
theorem Sim.alloc {c : Cx} (hs : Sim P c) (o : Obj) : Sim P (c.alloc o) :=
  hs.gen (Ext.alloc c o hs) fun r b h => .inl ⟨h, rfl, fun hv => heap_alloc_lt c.w o (hs.lt h hv)⟩
def Cx.drew (c : Cx) : Cx := { c with w := c.w.drew }
theorem Ext.drew (c : Cx) : Ext c c.drew where
  keep b hb _ := rfl
  own b hb h := h
  size := Nat.le_refl _
  live r blk h _ := ⟨blk, h, rfl, rfl, fun _ => rfl⟩
  nx := Nat.le_refl _
  sz b arr T fz h := ⟨arr, fz, h, rfl⟩
  os := rfl
  tape := rfl
  output := rfl
  n0 _ h := h
  new0 _ h := .inl h
  keep0 b hb := rfl
theorem Sim.drew {c : Cx} (hs : Sim P c) : Sim P c.drew := hs.gen (Ext.drew c) fun r b h => .inl ⟨h, rfl, fun _ => rfl⟩
def Cx.push (c : Cx) (o : Obj) (b : Blk) : Cx := ⟨c.w.alloc o, c.σ ++ [some b], upd c.loc c.σ.length (c.w.heap.size, 0), c.nx + 1, c.n0⟩
theorem push_get {σ : Store} {b : Blk} {r : Nat} {x : Blk} (h : (σ ++ [some b])[r]? = some (some x)) : (r < σ.length ∧ σ[r]? = some (some x)) ∨ (r = σ.length ∧ x = b) := by
  rw [List.getElem?_append] at h
  split at h
  · exact .inl ⟨by assumption, h⟩
  · rename_i hr
    obtain ⟨m, rfl⟩ : ∃ m, r = σ.length + m := ⟨r - σ.length, by omega⟩
    cases m with
    | zero => simp at h; exact .inr ⟨rfl, h.symm⟩
    | succ m => simp at h
theorem lt_of_get {σ : Store} {r : Nat} {x : Option Blk} (h : σ[r]? = some x) : r < σ.length := (List.getElem?_eq_some_iff.1 h).1
theorem Ext.push {c : Cx} (hs : Sim P c) (o : Obj) (b : Blk) (hst : b.st = c.nx) : Ext c (c.push o b) where
  keep x hx _ := heap_alloc_lt c.w o hx
  own x hx h := by
    obtain ⟨r, blk, h1, h2, h3⟩ := h
    rcases push_get h1 with ⟨hr, h1⟩ | ⟨rfl, rfl⟩
    · exact ⟨r, blk, h1, h2, by rw [← h3]; simp only [Cx.push]; rw [upd_ne _ _ (by omega)]⟩
    · simp only [Cx.push, upd_same] at h3; omega
  size := by simp [Cx.push]
  live r blk h hlt := by
    rcases push_get h with ⟨hr, h1⟩ | ⟨rfl, rfl⟩
    · exact ⟨blk, h1, rfl, rfl, fun _ => by simp only [Cx.push]; rw [upd_ne _ _ (by omega)]⟩
    · omega
  nx := by simp [Cx.push]
  sz x arr T fz h := ⟨arr, fz, by rw [← h]; exact heap_alloc_lt c.w o (Array.getElem?_eq_some_iff.1 h).1, rfl⟩
  os := rfl
  tape := rfl
  output := rfl
  n0 _ h := h
  new0 _ h := .inl h
  keep0 b hb := heap_alloc_lt c.w o (hs.n0 b hb)
theorem Sim.push {c : Cx} (hs : Sim P c) (o : Obj) (b : Blk) (hst : b.st = c.nx) (hb : Ext c (c.push o b) → BlkRep P (c.push o b) c.σ.length b) : Sim P (c.push o b) := by
  have he := Ext.push hs o b hst
  refine hs.gen he fun r b' h => ?_
  rcases push_get h with ⟨hr, h1⟩ | ⟨rfl, rfl⟩
  · refine .inl ⟨h1, by simp only [Cx.push]; rw [upd_ne _ _ (by omega)], fun hv => heap_alloc_lt c.w o (hs.lt h1 hv)⟩
  · refine .inr ⟨hb he, by simp [Cx.push, hst], fun hv => ⟨by simp only [Cx.push, upd_same]; exact fun hc => Nat.lt_irrefl _ (hs.n0 _ hc), fun r2 b2 hne h2 hv2 => ?_⟩⟩
    rcases push_get h2 with ⟨hr2, h2⟩ | ⟨rfl, rfl⟩
    · simp only [Cx.push, upd_same]
      rw [upd_ne _ _ (by omega)]
      have := hs.lt h2 hv2
      omega
    · exact absurd rfl hne
structure Wrote (c : Cx) (b : Nat) (w' : World) : Prop where
  other : ∀ x, x ≠ b → w'.heap[x]? = c.w.heap[x]?
  size : w'.heap.size = c.w.heap.size
  sz : ∀ (arr : Array Value) (T : TypeId) (fz : Nat × Nat), c.w.heap[b]? = some (Obj.cells arr T fz) → ∃ (arr' : Array Value) (fz' : Nat × Nat), w'.heap[b]? = some (Obj.cells arr' T fz') ∧ arr'.size = arr.size
  os : w'.os = c.w.os
  tape : w'.tape = c.w.tape
  output : w'.output = c.w.output
def Cx.put (c : Cx) (w' : World) (r : Nat) (b' : Blk) : Cx := ⟨w', c.σ.set r (some b'), c.loc, max c.nx (b'.st + 1), c.n0⟩
theorem put_get {σ : Store} {r r' : Nat} {b x : Blk} (h : (σ.set r (some b))[r']? = some (some x)) : (r' ≠ r ∧ σ[r']? = some (some x)) ∨ (r' = r ∧ x = b) := by
  rw [List.getElem?_set] at h
  split at h
  · rename_i he; subst he
    split at h
    · cases h; exact .inr ⟨rfl, rfl⟩
    · cases h
  · rename_i hne; exact .inl ⟨fun e => hne e.symm, h⟩
theorem Ext.put {c : Cx} (hs : Sim P c) {w' : World} {r : Nat} {b b' : Blk} (hr : c.σ[r]? = some (some b)) (hv : b.virt = false) (hv' : b'.virt = false) (hw : Wrote c ((c.loc r).1) w')
    (hst : b'.st < c.nx → b'.st = b.st) : Ext c (c.put w' r b') where
  keep x hx hn := hw.other x (fun e => hn ⟨r, b, hr, hv, e.symm⟩)
  own x hx h := by
    obtain ⟨q, blk, h1, h2, h3⟩ := h
    rcases put_get h1 with ⟨hne, h1⟩ | ⟨rfl, rfl⟩
    · exact ⟨q, blk, h1, h2, h3⟩
    · exact ⟨q, b, hr, hv, h3⟩
  size := by simp [Cx.put, hw.size]
  live q blk h hlt := by
    rcases put_get h with ⟨hne, h1⟩ | ⟨rfl, rfl⟩
    · exact ⟨blk, h1, rfl, rfl, fun _ => rfl⟩
    · exact ⟨b, hr, (hst hlt).symm, hv.trans hv'.symm, fun _ => rfl⟩
  nx := Nat.le_max_left _ _
  sz x arr T fz h := by
    rcases Nat.decEq x ((c.loc r).1) with hne | rfl
    · exact ⟨arr, fz, by rw [← h]; exact hw.other x hne, rfl⟩
    · exact hw.sz arr T fz h
  os := hw.os
  tape := hw.tape
  output := hw.output
  n0 _ h := h
  new0 _ h := .inl h
  keep0 x hx := hw.other x (hs.ground hr hv hx)
theorem Sim.put {c : Cx} (hs : Sim P c) {w' : World} {r : Nat} {b b' : Blk} (hr : c.σ[r]? = some (some b)) (hv : b.virt = false) (hv' : b'.virt = false) (hw : Wrote c ((c.loc r).1) w')
    (hst : b'.st < c.nx → b'.st = b.st) (hb : Ext c (c.put w' r b') → BlkRep P (c.put w' r b') r b') : Sim P (c.put w' r b') := by
  have he := Ext.put hs hr hv hv' hw hst
  refine hs.gen he fun q x h => ?_
  rcases put_get h with ⟨hne, h1⟩ | ⟨rfl, rfl⟩
  · exact .inl ⟨h1, rfl, fun hvx => hw.other _ (fun e => hne (hs.inj q r x b h1 hr hvx hv e))⟩
  · refine .inr ⟨hb he, by simp only [Cx.put]; omega, fun _ => ⟨hs.base q b hr hv, fun r2 b2 hne h2 hv2 e => ?_⟩⟩
    rcases put_get h2 with ⟨_, h2⟩ | ⟨rfl, _⟩
    · exact hne (hs.inj r2 q b2 b h2 hr hv2 hv e)
    · exact hne rfl
def Cx.putAt (c : Cx) (w' : World) (r d : Nat) (b' : Blk) : Cx := ⟨w', c.σ.set r (some b'), upd c.loc r ((c.loc r).1, d), max c.nx (b'.st + 1), c.n0⟩
theorem Ext.putAt {c : Cx} (hs : Sim P c) {w' : World} {r d : Nat} {b b' : Blk} (hr : c.σ[r]? = some (some b)) (hv : b.virt = false) (hw : Wrote c (c.loc r).1 w')
    (hst : c.nx ≤ b'.st) : Ext c (c.putAt w' r d b') where
  keep x hx hn := hw.other x (fun e => hn ⟨r, b, hr, hv, e.symm⟩)
  own x hx h := by
    obtain ⟨q, blk, h1, h2, h3⟩ := h
    rcases put_get h1 with ⟨hne, h1⟩ | ⟨rfl, rfl⟩
    · exact ⟨q, blk, h1, h2, by rw [← h3]; simp only [Cx.putAt]; rw [upd_ne _ _ hne]⟩
    · exact ⟨q, b, hr, hv, by rw [← h3]; simp only [Cx.putAt, upd_same]⟩
  size := by simp [Cx.putAt, hw.size]
  live q blk h hlt := by
    rcases put_get h with ⟨hne, h1⟩ | ⟨rfl, rfl⟩
    · exact ⟨blk, h1, rfl, rfl, fun _ => by simp only [Cx.putAt]; rw [upd_ne _ _ hne]⟩
    · omega
  nx := Nat.le_max_left _ _
  sz x arr T fz h := by
    rcases Nat.decEq x ((c.loc r).1) with hne | rfl
    · exact ⟨arr, fz, by rw [← h]; exact hw.other x hne, rfl⟩
    · exact hw.sz arr T fz h
  os := hw.os
  tape := hw.tape
  output := hw.output
  n0 _ h := h
  new0 _ h := .inl h
  keep0 x hx := hw.other x (hs.ground hr hv hx)
theorem Sim.putAt {c : Cx} (hs : Sim P c) {w' : World} {r d : Nat} {b b' : Blk} (hr : c.σ[r]? = some (some b)) (hv : b.virt = false) (hw : Wrote c (c.loc r).1 w')
    (hst : c.nx ≤ b'.st) (hb : Ext c (c.putAt w' r d b') → BlkRep P (c.putAt w' r d b') r b') : Sim P (c.putAt w' r d b') := by
  have he := Ext.putAt (d := d) hs hr hv hw hst
  refine hs.gen he fun q x h => ?_
  rcases put_get h with ⟨hne, h1⟩ | ⟨rfl, rfl⟩
  · exact .inl ⟨h1, by simp only [Cx.putAt]; rw [upd_ne _ _ hne], fun hvx => hw.other _ (fun e => hne (hs.inj q r x b h1 hr hvx hv e))⟩
  · refine .inr ⟨hb he, by simp only [Cx.putAt]; omega, fun _ => ⟨by simp only [Cx.putAt, upd_same]; exact hs.base q b hr hv, fun r2 b2 hne h2 hv2 e => ?_⟩⟩
    rcases put_get h2 with ⟨_, h2⟩ | ⟨rfl, _⟩
    · simp only [Cx.putAt, upd_same] at e
      rw [upd_ne _ _ hne] at e
      exact hne (hs.inj r2 q b2 b h2 hr hv2 hv e)
    · exact hne rfl
def Cx.move (c : Cx) (o : Obj) (r : Nat) (b' : Blk) : Cx := ⟨c.w.alloc o, c.σ.set r (some b'), upd c.loc r (c.w.heap.size, 0), max c.nx (b'.st + 1), c.n0⟩
theorem Ext.move {c : Cx} (hs : Sim P c) {o : Obj} {r : Nat} {b' : Blk} (hst : c.nx ≤ b'.st) : Ext c (c.move o r b') where
  keep x hx hn := heap_alloc_lt c.w o hx
  own x hx h := by
    obtain ⟨q, blk, h1, h2, h3⟩ := h
    rcases put_get h1 with ⟨hne, h1⟩ | ⟨rfl, rfl⟩
    · exact ⟨q, blk, h1, h2, by rw [← h3]; simp only [Cx.move]; rw [upd_ne _ _ hne]⟩
    · simp only [Cx.move, upd_same] at h3; omega
  size := by simp [Cx.move]
  live q blk h hlt := by
    rcases put_get h with ⟨hne, h1⟩ | ⟨rfl, rfl⟩
    · exact ⟨blk, h1, rfl, rfl, fun _ => by simp only [Cx.move]; rw [upd_ne _ _ hne]⟩
    · omega
  nx := Nat.le_max_left _ _
  sz x arr T fz h := ⟨arr, fz, by rw [← h]; exact heap_alloc_lt c.w o (Array.getElem?_eq_some_iff.1 h).1, rfl⟩
  os := rfl
  tape := rfl
  output := rfl
  n0 _ h := h
  new0 _ h := .inl h
  keep0 b hb := heap_alloc_lt c.w o (hs.n0 b hb)
theorem Sim.move {c : Cx} (hs : Sim P c) {o : Obj} {r : Nat} {b' : Blk} (hst : c.nx ≤ b'.st) (hb : Ext c (c.move o r b') → BlkRep P (c.move o r b') r b') : Sim P (c.move o r b') := by
  have he := Ext.move hs (o := o) (r := r) hst
  refine hs.gen he fun q x h => ?_
  rcases put_get h with ⟨hne, h1⟩ | ⟨rfl, rfl⟩
  · exact .inl ⟨h1, by simp only [Cx.move]; rw [upd_ne _ _ hne], fun hvx => heap_alloc_lt c.w o (hs.lt h1 hvx)⟩
  · refine .inr ⟨hb he, by simp only [Cx.move]; omega, fun _ => ⟨by simp only [Cx.move, upd_same]; exact fun hc => Nat.lt_irrefl _ (hs.n0 _ hc), fun r2 b2 hne h2 hv2 e => ?_⟩⟩
    rcases put_get h2 with ⟨_, h2⟩ | ⟨rfl, _⟩
    · simp only [Cx.move, upd_same] at e
      rw [upd_ne _ _ hne] at e
      have := hs.lt h2 hv2
      omega
    · exact hne rfl
def Cx.putV (c : Cx) (r : Nat) (b' : Blk) : Cx := ⟨c.w, c.σ.set r (some b'), c.loc, max c.nx (b'.st + 1), c.n0⟩
def Less (σ' σ : Store) : Prop := ∀ (r : Nat) (b : Blk), σ'[r]? = some (some b) → σ[r]? = some (some b)
theorem Less.refl (σ : Store) : Less σ σ := fun _ _ h => h
theorem Less.trans {a b c : Store} (h : Less a b) (k : Less b c) : Less a c := fun r x hx => k r x (h r x hx)
theorem Less.take (σ : Store) (n : Nat) : Less (σ.take n) σ := fun r b h => by
  rw [List.getElem?_take] at h
  split at h
  · exact h
  · cases h
theorem Less.kill (σ : Store) (n : Nat) : Less (σ.set n none) σ := fun r b h => by
  rw [List.getElem?_set] at h
  split at h
  · split at h <;> cases h
  · exact h
theorem Ext.less {c : Cx} {σ' : Store} (h : Less σ' c.σ) : Ext c { c with σ := σ' } where
  keep b hb _ := rfl
  own b hb ho := let ⟨r, blk, h1, h2, h3⟩ := ho; ⟨r, blk, h r blk h1, h2, h3⟩
  size := Nat.le_refl _
  live r blk hr _ := ⟨blk, h r blk hr, rfl, rfl, fun _ => rfl⟩
  nx := Nat.le_refl _
  sz b arr T fz h := ⟨arr, fz, h, rfl⟩
  os := rfl
  tape := rfl
  output := rfl
  n0 _ h := h
  new0 _ h := .inl h
  keep0 b hb := rfl
theorem Sim.less {c : Cx} (hs : Sim P c) {σ' : Store} (h : Less σ' c.σ) : Sim P { c with σ := σ' } :=
  hs.gen (Ext.less h) fun r b hr => .inl ⟨h r b hr, rfl, fun _ => rfl⟩
end
end Hb
end
