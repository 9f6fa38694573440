/- A layer for programs of small data: values, stores, code, and an evaluator of code that the kernel runs; part 11. -/
import Derived.Test.YtmcpmmololjjcaaGreatDoorH10

section
set_option linter.unusedVariables false
set_option linter.unusedSimpArgs false
set_option linter.constructorNameAsVariable false
set_option autoImplicit false
set_option linter.unusedVariables false
set_option linter.unusedSimpArgs false
namespace Hb
open Go
noncomputable def keysBody (R : Rec) (args : List AV) (s3 : ES) : Res := argsK [0,1] args (fun v1 v2 => (pLoad s3 false 1 v2 fun v4 => (pRngm s3 v4 fun v5 s6 => (lp [] 30000 (keysL R v5 v1) [] s6))))
noncomputable def seqJ (v4 : AV) : Cur [] := fun d6 s7 => (pLoad s7 false 1 v4 fun v8 => (eLeave d6 s7 fun s9 => (some (.ret v8 s9))))
noncomputable def seqBody (TB : Nat) (xa xb : XC) (R : Rec) (args : List AV) (s3 : ES) : Res := argsK [0,1] args (fun v1 v2 => (pBox s3 TB v1 fun v4 s5 => (jn [] (seqJ v4) fun K10 => (pRange R.h 13 v2 [7] (envL [(2,v4)]) xa xb [] s5 (fun d11 s12 => (K10 d11 s12)) fun e13 d14 s15 => (xsel 0 e13 (K10 d14 s15) fun e16 => (xfin e16 (eLeave d14 s15 fun s17 => (some (.ret (.ns) s17)))))))))
noncomputable def collectBody (seq : List AV → ES → Res) (args : List AV) (s2 : ES) : Res := argsK [0] args (fun v1 => (callK (seq [(.ns),v1] s2) fun v3 s4 => (some (.ret v3 s4))))
noncomputable def sortBody (len pdq : List AV → ES → Res) (args : List AV) (s2 : ES) : Res := argsK [0] args (fun v1 => (pLen false v1 fun v3 => (pInt .u64 v3 fun v4 => (callK (len [v4] s2) fun v5 s6 => (callK (pdq [v1,(.i .i64 0),v3,v5] s6) fun v7 s8 => (some (.ret (.tup []) s8)))))))
noncomputable def sortedBody (collect sort : List AV → ES → Res) (args : List AV) (s2 : ES) : Res := argsK [0] args (fun v1 => (callK (collect [v1] s2) fun v3 s4 => (callK (sort [v3] s4) fun v5 s6 => (some (.ret v3 s6)))))
structure Asked (s : ES) (rb sb rm sm ck : Nat) (es : Ents) (Ky : AV → Prop) : Prop where
  n : s.n ≤ 900000000
  hrb : rb < s.n
  hrm : rm < s.n
  box : ∃ Tb fz, s.t.get rb = some (.cells sb false Tb fz [.m rm sm])
  map : s.t.get rm = some (.map sm ck es)
  ne : es ≠ []
  len : es.length ≤ 12
  hck : ∀ e ∈ es, e.2.2 < ck
  nd : (es.map (·.2.2)).Nodup
  key : ∀ e ∈ es, Ky e.1
def CDone (s0 : ES) (T : Nat) (es : Ents) (v : AV) (s' : ES) : Prop :=
  ∃ acc xw, acc.Perm (es.map (·.1)) ∧ v = .gr (s0.n + 5) xw 0 acc.length 1 ∧ s'.t.get (s0.n + 5) = some (.cells xw false T 0 acc) ∧ s0.n + 5 < s'.n ∧ s'.n ≤ s0.n + 100 ∧ ∀ r, r < s0.n → s'.t.get r = s0.t.get r
theorem eRangeEnd_of {r st N : Nat} {ρ : Nat → AV} {ps : List Nat} {xa xb : XC} {dr ds : Nat} {d : List (Nat × Nat)} {s : ES} {kn : List (Nat × Nat) → ES → Res} {ke : XExit → List (Nat × Nat) → ES → Res} (hr : r < s.n) (hn : s.n ≤ 999999999) (hg : s.t.get r = some (.loop st .ready none N ρ ps xa xb dr ds)) :
    eRangeEnd r st d s kn ke = kn d (s.put r none) := by
  unfold eRangeEnd
  rw [sAt_of (st := st) hr hg rfl]
  show (pPut s r none fun s' => kn d s') = _
  rw [pPut_of (by omega)]
theorem seq_run {TB T gk : Nat} {xa xb : XC} {z : AV} {R R1 : Rec} {s : ES} {rb sb rm sm ck : Nat} {es : Ents} {Ky : AV → Prop} (hKy : ∀ x, Ky x → KeyL x)
    (hh : ∀ args s, R.h gk args s = keysBody R1 args s) (hA : ∀ f s, R1.b 13 xa f s = assignBody f s) (hB : ∀ f s, R1.b 13 xb f s = appendBody T z f s) (h : Asked s rb sb rm sm ck es Ky) :
    Tot (CDone s T es) (seqBody TB xa xb R [.ns, .fn (.func gk) [] [.p rb sb 1 0 0]] s) := by
  obtain ⟨hn, hrb, hrm, ⟨Tb, fz, hbox⟩, hmap, hne, hlen, hck, hnd, hkey⟩ := h
  let sa := s.push (.cells s.nx false TB 0 [.ns])
  let sb1 := sa.push (.dfr (s.nx + 1))
  let s2 := sb1.push (.loop (s.nx + 2) .ready none 13 (envL [(2, .p s.n s.nx 1 0 0)]) [7] xa xb (s.n + 1) (s.nx + 1))
  let s6 := s2.push (.miter (s.nx + 3) rm sm ck ck [])
  have ga : ∀ r, sa.t.get r = if r = s.n then some (.cells s.nx false TB 0 [.ns]) else s.t.get r := push_get_t _ _
  have gb : ∀ r, sb1.t.get r = if r = s.n + 1 then some (.dfr (s.nx + 1)) else sa.t.get r := push_get_t _ _
  have g2 : ∀ r, s2.t.get r = if r = s.n + 2 then some (.loop (s.nx + 2) .ready none 13 (envL [(2, .p s.n s.nx 1 0 0)]) [7] xa xb (s.n + 1) (s.nx + 1)) else sb1.t.get r := push_get_t _ _
  have g6 : ∀ r, s6.t.get r = if r = s.n + 3 then some (.miter (s.nx + 3) rm sm ck ck []) else s2.t.get r := push_get_t _ _
  have n2 : s2.n = s.n + 3 := rfl
  have n6 : s6.n = s.n + 4 := rfl
  have o2 : ∀ r, r < s.n → s2.t.get r = s.t.get r := fun r hr => by rw [g2, if_neg (by omega), gb, if_neg (by omega), ga, if_neg (by omega)]
  have hinv : KInv s.n s.nx s TB T xa xb [] s6 := by
    refine ⟨by omega, by omega, fun r hr => by rw [g6, if_neg (by omega), o2 r hr], ⟨.ns, ?_, .inl ⟨rfl, rfl⟩⟩, ?_, ?_⟩
    · rw [g6, if_neg (by omega), g2, if_neg (by omega), gb, if_neg (by omega), ga, if_pos rfl]
    · rw [g6, if_neg (by omega), g2, if_neg (by omega), gb, if_pos rfl]
    · rw [g6, if_neg (by omega), g2, if_pos rfl]
  have hl0 : left es [] = es := List.filter_eq_self.2 fun e _ => rfl
  have hkl := keys_loop (X := s.nx) (TB := TB) hA hB (fun e he => hKy _ (hkey e he)) hck hnd hn (by omega) hrm hmap 30000 s6 [] [] (by rw [hl0]; omega) hinv (by rw [g6, if_pos rfl]) (by rw [hl0]; exact List.Perm.refl _)
  have hcall : Tot (KDone s.n s.nx s TB T xa xb es) (R.h gk [.fy (s.n + 2) (s.nx + 2), .p rb sb 1 0 0] s2) := by
    rw [hh]
    show Tot _ (pLoad s2 false 1 (.p rb sb 1 0 0) fun v4 => pRngm s2 v4 fun v5 s6 => lp [] 30000 (keysL R1 v5 (.fy (s.n + 2) (s.nx + 2))) [] s6)
    rw [pLoad_cell (by omega) (by rw [o2 rb hrb, hbox]) rfl]
    show Tot _ (sAt s2 rm sm fun b => (match b with
      | .map _ ck _ => pPush s2 (fun x => .miter x rm sm ck ck []) fun r x s' => lp [] 30000 (keysL R1 (.it r x) (.fy (s.n + 2) (s.nx + 2))) [] s'
      | _ => none))
    rw [sAt_of (st := sm) (by omega) (by rw [o2 rm hrm, hmap]) rfl]
    show Tot _ (pPush s2 (fun x => .miter x rm sm ck ck []) fun r x s' => lp [] 30000 (keysL R1 (.it r x) (.fy (s.n + 2) (s.nx + 2))) [] s')
    rw [pPush_of (by omega)]
    exact hkl
  show Tot _ (frcN 1 fun m => pPush s (fun x => .cells x false TB 0 [.ns]) fun r x s5 => jn [] (seqJ (.p r x m 0 0)) fun K10 => pRange R.h 13 (.fn (.func gk) [] [.p rb sb 1 0 0]) [7] (envL [(2, .p r x m 0 0)]) xa xb [] s5 (fun d11 s12 => K10 d11 s12) fun e13 d14 s15 => xsel 0 e13 (K10 d14 s15) fun e16 => xfin e16 (eLeave d14 s15 fun s17 => some (.ret .ns s17)))
  rw [frcN_eq, pPush_of (by omega)]
  show Tot _ (pPush sa (fun x => .dfr x) fun r0 x0 s1 => pPush s1 (fun x => .loop x .ready none 13 (envL [(2, .p s.n s.nx 1 0 0)]) [7] xa xb r0 x0) fun r1 x1 s2 =>
      callK (R.h gk ([] ++ [.fy r1 x1] ++ [.p rb sb 1 0 0]) s2) fun _ s3 => eRangeEnd r1 x1 [(r0, x0)] s3 (fun d11 s12 => (seqJ (.p s.n s.nx 1 0 0) : List (Nat × Nat) → ES → Res) d11 s12) fun e13 d14 s15 => xsel 0 e13 ((seqJ (.p s.n s.nx 1 0 0) : List (Nat × Nat) → ES → Res) d14 s15) fun e16 => xfin e16 (eLeave d14 s15 fun s17 => some (.ret .ns s17)))
  rw [pPush_of (show sa.n ≤ _ by show s.n + 1 ≤ _; omega)]
  rw [pPush_of (show (sa.push (.dfr sa.nx)).n ≤ _ by show s.n + 2 ≤ _; omega)]
  show Tot _ (callK (R.h gk [.fy (s.n + 2) (s.nx + 2), .p rb sb 1 0 0] s2) fun _ s3 => eRangeEnd (s.n + 2) (s.nx + 2) [(s.n + 1, s.nx + 1)] s3 (fun d11 s12 => (seqJ (.p s.n s.nx 1 0 0) : List (Nat × Nat) → ES → Res) d11 s12) fun e13 d14 s15 => xsel 0 e13 ((seqJ (.p s.n s.nx 1 0 0) : List (Nat × Nat) → ES → Res) d14 s15) fun e16 => xfin e16 (eLeave d14 s15 fun s17 => some (.ret .ns s17)))
  refine hcall.call fun v s3 ⟨_, acc, hi, hp⟩ => ?_
  obtain ⟨lo, hi, old, ⟨va, hva, hrow⟩, hd, hlp⟩ := hi
  have hal : acc.length = es.length := by rw [hp.length_eq, List.length_map]
  rw [eRangeEnd_of (by omega) (by omega) hlp]
  rcases hrow with ⟨rfl, _⟩ | ⟨hne', h5, xw, rfl, hw⟩
  · exact absurd (List.length_eq_zero_iff.1 (by simpa using hal.symm)) hne
  let s4 := s3.put (s.n + 2) none
  have g4 : ∀ r, s4.t.get r = if r = s.n + 2 then none else s3.t.get r := put_get_t _ _ _
  let s7 := s4.put (s.n + 1) none
  have g7 : ∀ r, s7.t.get r = if r = s.n + 1 then none else s4.t.get r := put_get_t _ _ _
  show Tot _ (pLoad s4 false 1 (.p s.n s.nx 1 0 0) fun v8 => eLeave [(s.n + 1, s.nx + 1)] s4 fun s9 => some (.ret v8 s9))
  rw [pLoad_cell (s := s4) (show s.n < s3.n by omega) (by rw [g4, if_neg (by omega), hva]) rfl]
  show Tot _ (sAt s4 (s.n + 1) (s.nx + 1) fun b => (match b with | .dfr _ => pPut s4 (s.n + 1) none fun s9 => some (.ret (.gr (s.n + 5) xw 0 acc.length 1) s9) | _ => none))
  rw [sAt_of (s := s4) (st := s.nx + 1) (show s.n + 1 < s3.n by omega) (by rw [g4, if_neg (by omega), hd]) rfl]
  show Tot _ (pPut s4 (s.n + 1) none fun s9 => some (.ret (.gr (s.n + 5) xw 0 acc.length 1) s9))
  rw [pPut_of (by omega)]
  refine Tot.ret ⟨acc, xw, hp, rfl, ?_, h5, ?_, fun r hr => ?_⟩
  · show s7.t.get _ = _
    rw [g7, if_neg (by omega), g4, if_neg (by omega), hw]
  · show s3.n ≤ _
    omega
  · show s7.t.get _ = _
    rw [g7, if_neg (by omega), g4, if_neg (by omega), old r hr]
def SDone (s0 : ES) (T : Nat) (ks : List AV) (v : AV) (s' : ES) : Prop :=
  ∃ xw, v = .gr (s0.n + 5) xw 0 ks.length 1 ∧ s'.t.get (s0.n + 5) = some (.cells xw false T 0 ks) ∧ s0.n + 5 < s'.n ∧ ∀ r, r < s0.n → s'.t.get r = s0.t.get r
theorem sorted_run {seq len pdq less : List AV → ES → Res} {lt : AV → AV → Bool} {Ky : AV → Prop} {s : ES} {c : AV} {T : Nat} {es : Ents} (hKy : ∀ x, Ky x → KeyL x) (hL : LtOn lt Ky)
    (hless : ∀ x y s, Ky x → Ky y → less [x, y] s = some (.ret (.b (lt x y)) s)) (hlen : ∀ n s, n ≤ 12 → ∃ m, len [.i .u64 (.ofNat n)] s = some (.ret m s))
    (hpdq : ∀ v n m s, n ≤ 12 → pdq [v, .i .i64 0, aI n, m] s = callK (insBody less [v, .i .i64 0, aI n] s) fun _ s8 => some (.ret (.tup []) s8))
    (hn : s.n ≤ 900000000) (hk : ∀ e ∈ es, Ky e.1) (hne : es ≠ []) (hes : es.length ≤ 12) (hseq : Tot (CDone s T es) (seq [.ns, c] s)) :
    Tot (SDone s T (srt lt (es.map (·.1)))) (sortedBody (collectBody seq) (sortBody len pdq) [c] s) := by
  show Tot _ (callK (callK (seq [.ns, c] s) fun v3 s4 => some (.ret v3 s4)) fun v3 s4 => callK (sortBody len pdq [v3] s4) fun v5 s6 => some (.ret v3 s6))
  refine Tot.call (Ψ := CDone s T es) (hseq.call fun v s' h => Tot.ret h) fun v s1 ⟨acc, xw, hp, hv, hw, h5, h6, hold⟩ => ?_
  subst hv
  have hal : acc.length = es.length := by rw [hp.length_eq, List.length_map]
  have hKa : ∀ y ∈ acc, Ky y := fun y hy => by
    obtain ⟨e, he, rfl⟩ := List.mem_map.1 (hp.mem_iff.1 hy)
    exact hk e he
  have hKe : ∀ y ∈ es.map (·.1), Ky y := fun y hy => hKa y (hp.mem_iff.2 hy)
  obtain ⟨m, hm⟩ := hlen acc.length s1 (by omega)
  have hsort : Tot (fun v s' => RowS (s.n + 5) xw T s1 s' (srt lt acc)) (sortBody len pdq [.gr (s.n + 5) xw 0 acc.length 1] s1) := by
    show Tot _ (wrapK .u64 (.ofNat acc.length) fun v4 => callK (len [v4] s1) fun v5 s6 => callK (pdq [.gr (s.n + 5) xw 0 acc.length 1, .i .i64 0, aI acc.length, v5] s6) fun v7 s8 => some (.ret (.tup []) s8))
    rw [wrapK_eq, show IntKind.u64.wrap (.ofNat acc.length) = .ofNat acc.length from wrap_max .u64 acc.length (by simp only [kmax]; omega), hm]
    show Tot _ (callK (pdq [.gr (s.n + 5) xw 0 acc.length 1, .i .i64 0, aI acc.length, m] s1) fun v7 s8 => some (.ret (.tup []) s8))
    rw [hpdq _ _ _ _ (by omega)]
    have := ins_run hless hKy (r := s.n + 5) (st := xw) (T := T) (s0 := s1) (s := s1) (l := acc) (by omega) (by omega) (fun h => hne (by rw [h] at hal; exact List.length_eq_zero_iff.1 (by simpa using hal.symm))) hKa ⟨rfl, h5, fun _ _ => rfl, hw⟩
    refine Tot.call (Ψ := fun v s' => RowS (s.n + 5) xw T s1 s' (srt lt acc)) (this.call fun v s' h => Tot.ret h.2) fun v s' h => Tot.ret h
  refine hsort.call fun v s' h => Tot.ret ?_
  have he := srt_eq hL hp hKe
  rw [← he]
  refine ⟨xw, by rw [(srt_perm acc).length_eq], h.row, by rw [h.n]; exact h5, fun r hr => by rw [h.old r (by omega), hold r hr]⟩
section
variable {P : Prg}
theorem row_back {g : FuncId} {args : List AV} {s s1 : ES} {a0 : Ans} {l : List Nat} {T : Nat} {cs : List AV} (hcall : ACall P g args (⟨pickT s.t l, s.n, s.nx⟩ : ES).st (RetIn a0)) (hp : partOk s.t (pickT s.t l) s.nx l = true)
    (hkey : ∀ v sl, Leaf (.ret v sl) a0 → (∀ r b, r ∈ l → r < s.n → (pickT s.t l).get r = some b → sl.st.1[r]? = some (some b)) ∧ ∃ r1 st1 sa, v = .gr r1 st1 0 cs.length 1 ∧ inQ (pickT s.t l) r1 = false ∧ sl.st.1.at r1 st1 = some (.cells sa false T 0 cs) ∧ ∀ x ∈ cs, flat x = true)
    (hs1 : s1.st = (s.st.1 ++ [some (.cells s.st.2 false T 0 cs)], s.st.2 + 1)) : ACall P g args s.st (RetIn (.ret (.gr s.st.1.length s.st.2 0 cs.length 1) s1)) := by
  refine ⟨hcall.1, fun c vs hc hs hrl => ?_⟩
  let s0 : ES := ⟨pickT s.t l, s.n, s.nx⟩
  let c0 : Cx := { c with σ := s0.st.1 }
  have hσ : c.σ = s.st.1 := congrArg Prod.fst hc
  have hnx : c.nx = s.st.2 := congrArg Prod.snd hc
  have hl0 : Less c0.σ c.σ := fun r b h => by rw [hσ]; exact (part_store h).2.2.2
  have hc0 : c0.st = s0.st := by
    show (_, c.nx) = _
    rw [hnx]
    rfl
  have hrun := hcall.2 c0 vs hc0 (hs.less hl0) (RepL.mono (Ext.less hl0) _ _ hrl)
  refine ⟨hrun.1, fun cs0 hcs0 => ?_⟩
  obtain ⟨e, w', fr, ⟨c1, u, av, rfl, rfl, hsim, hext, hrv, hk⟩, q2, q3⟩ := hrun.2 cs0 hcs0
  refine ⟨_, c1.w, fr, ?_, q2, q3⟩
  obtain ⟨sl, hleaf, hsl⟩ := hk
  obtain ⟨hsm, r1, st1, sa, rfl, g1, ga, hfl⟩ := hkey av sl hleaf
  have hσ1 : c1.σ = sl.st.1 := (congrArg Prod.fst hsl).symm
  have hu : ∀ r b, c0.σ[r]? = some (some b) → c1.σ[r]? = some (some b) := fun r b h => by
    obtain ⟨h1, h2, h3, h4⟩ := part_store h
    rw [hσ1]
    exact hsm r b h1 h2 h3
  have hq : ∀ r b, knowQ s.t (pickT s.t l) r = true → c.σ[r]? = some (some b) → c0.σ[r]? = some (some b) := fun r b h1 h2 => by
    rw [hσ, ES.get?] at h2
    split at h2
    · rename_i hr
      have h2 := Option.some.inj h2
      obtain ⟨b', hb'⟩ := knowQ_get h1 h2
      have h3 := (pickT_get hb').2
      rw [h2] at h3
      cases h3
      show s0.st.1[r]? = _
      rw [ES.get?, if_pos hr, hb']
    · cases h2
  have hcl : ∀ r b, c0.σ[r]? = some (some b) → closB (knowQ s.t (pickT s.t l)) c.nx b = true := fun r b h => by
    obtain ⟨h1, h2, h3, h4⟩ := part_store h
    rw [hnx]
    exact partOk_mem hp h1 h3
  obtain ⟨hsim', hext'⟩ := frame_many hs hl0 hu hq hcl hext hsim
  rw [← hσ1] at ga
  obtain ⟨ga1, _⟩ := Store.at_some ga
  have hB1 : c.w.heap.size ≤ (c1.loc r1).1 := by
    rcases Nat.lt_or_ge ((c1.loc r1).1) c.w.heap.size with hlt | hge
    · exfalso
      obtain ⟨q', b', z1, z2, z3⟩ := hext.own ((c1.loc r1).1) hlt ⟨r1, _, ga1, rfl, rfl⟩
      have y1 := hu q' b' z1
      have y2 : b'.st < c0.nx := (hs.blk q' b' (hl0 q' b' z1)).2
      obtain ⟨blk, _, w2, w3, w4⟩ := hext.live q' b' y1 y2
      have hv : blk.virt = false := by rw [w3]; exact z2
      have hι : c1.loc q' = c.loc q' := w4 hv
      have z3 : (c.loc q').1 = (c1.loc r1).1 := z3
      have e1 := hsim.inj r1 q' _ b' ga1 y1 rfl z2 (by rw [hι, z3])
      subst e1
      have := (part_store z1).2.2.1
      unfold inQ at g1
      rw [getR_eq, this] at g1
      cases g1
    · exact hge
  have hnown : ¬ (⟨c1.w, c.σ, c.loc, c.nx, c.n0⟩ : Cx).own ((c1.loc r1).1) := by
    rintro ⟨q, b, z1, z2, z3⟩
    have := hs.lt z1 z2
    have z3 : (c.loc q).1 = (c1.loc r1).1 := z3
    omega
  obtain ⟨arr1, fzr1, p1, p2, p3, p4⟩ := (show BlkRep P c1 r1 (.cells sa false T 0 cs) from (hsim.blk r1 _ ga1).1).2 rfl
  have d1 := (p2.2 (by decide)).2
  rw [d1] at p2 p3 p4
  rw [Nat.zero_add] at p3
  obtain ⟨d2, w2, t2, sim2, ext2, e02, ι2, own2⟩ := take_in (T := T) hsim' hext' hnown hB1 hs.n0 p1 p2 p3 (fun c' hc' => flat_at (c := c1) hc' hfl p4)
  have w2 : d2.w = c1.w := w2
  have t2 : d2.st = s1.st := by rw [t2, hs1]; show (c.σ ++ [some (.cells c.nx false T 0 cs)], c.nx + 1) = _; rw [hσ, hnx]
  have t2σ : d2.σ = s1.st.1 := congrArg Prod.fst t2
  have t2n : d2.nx = s1.st.2 := congrArg Prod.snd t2
  have hι1 : d2.loc s.st.1.length = c1.loc r1 := by
    rw [← hσ]
    exact ι2.trans (Prod.ext rfl d1.symm)
  refine ⟨d2, u, .gr s.st.1.length s.st.2 0 cs.length 1, rfl, w2, sim2, ext2, ?_, ⟨s1, rfl, t2.symm⟩⟩
  refine row_val hrv ga w2 hι1 (by rw [t2n, hs1]; exact Nat.lt_succ_self _) fun blk hb => ?_
  obtain ⟨hb, _⟩ := Store.at_some hb
  rw [t2σ, hs1] at hb
  simp at hb
  rw [← hb]; rfl
noncomputable def askedK (ky : AV → Bool) (gk : Nat) (p : TR) (n : Nat) (args : List AV) (k : List AV → Res) : Res :=
  match args with
  | [.fn (.func g) [] [.p rb sb 1 0 0]] => (match getR p rb with
    | some (.cells sb' false _ _ [.m rm sm]) => (match getR p rm with
      | some (.map sm' ck es) => cond (Nat.beq g gk && Nat.beq sb' sb && Nat.beq sm' sm && Nat.ble n 900000000 && Nat.ble (Nat.succ rb) n && Nat.ble (Nat.succ rm) n && Nat.ble 1 es.length && Nat.ble es.length 12 && (es.all fun e => Nat.ble (Nat.succ e.2.2) ck) && decide ((es.map (·.2.2)).Nodup) && (es.all fun e => ky e.1) && !(inQ p (n + 5))) (k (es.map (·.1))) none
      | _ => none)
    | _ => none)
  | _ => none
theorem askedK_some {ky : AV → Bool} {gk : Nat} {p : TR} {n nx : Nat} {args : List AV} {k : List AV → Res} {a : Ans} (h : askedK ky gk p n args k = some a) :
    ∃ rb sb rm sm ck es, args = [.fn (.func gk) [] [.p rb sb 1 0 0]] ∧ Asked ⟨p, n, nx⟩ rb sb rm sm ck es (fun v => ky v = true) ∧ inQ p (n + 5) = false ∧ k (es.map (·.1)) = some a := by
  unfold askedK at h
  split at h
  case h_2 => cases h
  rename_i g rb sb
  split at h
  case h_2 => cases h
  rename_i sb' _ _ rm sm hb
  split at h
  case h_2 => cases h
  rename_i sm' ck es hm
  obtain ⟨h1, hk⟩ := cond_some h
  simp only [Bool.and_eq_true, Nat.beq_eq, Bool.not_eq_true', decide_eq_true_eq, List.all_eq_true] at h1
  obtain ⟨⟨⟨⟨⟨⟨⟨⟨⟨⟨⟨e1, e2⟩, e3⟩, e4⟩, e5⟩, e6⟩, e7⟩, e8⟩, e9⟩, e10⟩, e11⟩, e12⟩ := h1
  subst e1 e2 e3
  rw [getR_eq] at hb hm
  refine ⟨rb, sb', rm, sm', ck, es, rfl, ⟨Nat.le_of_ble_eq_true e4, Nat.le_of_ble_eq_true e5, Nat.le_of_ble_eq_true e6, ⟨_, _, hb⟩, hm, fun e => ?_, Nat.le_of_ble_eq_true e8, fun e he => Nat.le_of_ble_eq_true (e9 e he), e10, e11⟩, e12, hk⟩
  rw [e] at e7
  cases e7
noncomputable def askedQ (gk : Nat) (t : TR) (args : List AV) : Bool :=
  match args with
  | [.fn (.func g) _ [.p rb _ _ _ _]] => cond (Nat.beq g gk) (match getR t rb with
    | some (.cells _ _ _ _ [.m rm _]) => (match getR t rm with
      | some (.map _ _ es) => cond (Nat.ble 2 (lenR es)) (Nat.ble (lenR es) 12) false
      | _ => false)
    | _ => false) false
  | _ => false
noncomputable def sortedKeys (ky : AV → Bool) (lt : AV → AV → Bool) (gk T : Nat) : Fun := fun R args s =>
  cond (askedQ gk s.t args) (reach s.t 4000 (catL refsV args []) [] fun l => pickK s.t l fun p => cond (partOk s.t p s.nx l) (askedK ky gk p s.n args fun ks => frcLA (srt lt ks) fun ks => pPush s (fun x => .cells x false T 0 ks) fun r x s' => some (.ret (.gr r x 0 ks.length 1) s')) none) none
theorem sortedKeys_ok {ky : AV → Bool} {lt : AV → AV → Bool} {gk T : Nat} {g : FuncId} {b : Fun} {R0 : Rec} (hb : SOk P g b) (hR : RecOk P R0) (hfl : ∀ v, ky v = true → flat v = true)
    (hrun : ∀ s rb sb rm sm ck es, Asked s rb sb rm sm ck es (fun v => ky v = true) → Tot (SDone s T (srt lt (es.map (·.1)))) (b R0 [.fn (.func gk) [] [.p rb sb 1 0 0]] s)) : SOk P g (sortedKeys ky lt gk T) := by
  intro R hRR args s a h
  unfold sortedKeys at h
  obtain ⟨_, h⟩ := cond_some h
  obtain ⟨l, h⟩ := reach_some _ _ _ h
  rw [pickK_eq] at h
  obtain ⟨hp, h⟩ := cond_some h
  obtain ⟨rb, sb, rm, sm, ck, es, rfl, hask, hinq, h⟩ := askedK_some (nx := s.nx) h
  rw [frcLA_eq] at h
  obtain ⟨s1, hs1, h⟩ := pPush_some h
  cases h
  obtain ⟨a0, ha0, hall⟩ := hrun _ _ _ _ _ _ _ hask
  refine row_back (hb R0 hR _ _ _ ha0) hp (fun v sl hl => ?_) hs1
  obtain ⟨xw, rfl, hw, hn, hold⟩ := hall.leaf v sl hl
  refine ⟨fun r b _ hr hg => ?_, s.n + 5, xw, xw, rfl, hinq, ?_, fun x hx => ?_⟩
  · rw [ES.get?, if_pos (by show r < sl.n; have : s.n + 5 < sl.n := hn; omega), hold r hr]
    exact congrArg some hg
  · rw [← ES.at_eq]
    exact ES.at_of hn hw rfl
  · obtain ⟨e, he, rfl⟩ := List.mem_map.1 ((srt_perm _).mem_iff.1 hx)
    exact hfl _ (hask.key e he)
end
end Hb
end

section
set_option linter.unusedVariables false
set_option linter.unusedSimpArgs false
set_option linter.constructorNameAsVariable false
set_option autoImplicit false
set_option linter.unusedVariables false
namespace Hb
open Go
abbrev xq (a b : XC) : XC := .seq none a b
abbrev xs (a b : XC) : XC := .seq (some []) a b
abbrev xo (l : List XOper) : XC := .ops l
abbrev xl (d s : Nat) : XOper := op1 d (.load false 1 (.t s))
abbrev xt (d n s : Nat) : XOper := op1 d (.load true n (.t s))
abbrev xk (d f : Nat) (l : List XO) : XOper := op1 d (.call (.f f) l)
abbrev xm (d : Nat) (c : AV) : XOper := op1 d (.move (.c c))
abbrev xi (n : Int) : XO := .c (.i .i64 n)
abbrev xf (d o s : Nat) : XOper := op1 d (.fadr o (.t s))
abbrev xn (d s : Nat) : XOper := op1 d (.nilc (.t s))
abbrev xe (d s n : Nat) : XOper := op1 d (.ext (.t s) n)
abbrev xb (d : Nat) (b : BinOp) (x y : XO) : XOper := op1 d (.bin b x y)
abbrev xg (d s c : Nat) : XOper := ⟨some d, .move (.t s), some (c, true)⟩
abbrev xh (d s c : Nat) : XOper := ⟨some d, .move (.t s), some (c, false)⟩
noncomputable def jg (B : KV) (v : AV) (w : Bool) (s : ES) (X : KV → Res) : Res := jv B fun K => eGuard v w (X K) (K (.tup []) s)
noncomputable def dp (n : Nat) (x : XC) (r : List XR) (A : List Nat) : Fun := fun R args s => eEnt R n x r A args s
section
variable {P : Prg}
theorem fo {g : FuncId} {n : Nat} {x : XC} {r : List XR} (l : List (Nat × XC)) (k : allOk P n l) (h1 : funOk P g x = some (x, r, n)) (h2 : tagsOf x = l) : FunOk P g x r n := FunOk.of (hn := x) h1 (XOk.of' l h2 k)
theorem dp_ok (hm : P.follows .mixedOrders = true) {g : FuncId} {n : Nat} {x : XC} {r : List XR} {A : List Nat} (hf : FunOk P g x r n) (hn : A.length ≤ n) (hA : A = List.range' 0 A.length) : SOk P g (dp n x r A) := fun R hR args s a h => eEnt_ok hm hR hf hA hn h
end
end Hb
end
