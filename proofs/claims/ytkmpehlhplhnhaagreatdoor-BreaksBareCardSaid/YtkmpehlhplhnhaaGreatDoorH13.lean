/- A layer for programs of small data: values, stores, code, and an evaluator of code that the kernel runs; part 13. -/
import Derived.Test.YtkmpehlhplhnhaaGreatDoorH12
import Derived.ChangeFn
import Derived.OpenShut
import Derived.LaidMore
import Derived.ChangeSlices

section
set_option linter.unusedVariables false
set_option linter.unusedSimpArgs false
set_option linter.constructorNameAsVariable false
set_option autoImplicit false
set_option linter.unusedVariables false
set_option linter.unusedSimpArgs false
set_option linter.constructorNameAsVariable false
namespace Hb
open Go
theorem cellsK_gr {l : List (Option Blk)} {nx r st st' T fz n kk : Nat} {cs : List AV} {k : Nat → List AV → Res} (h : l[r]? = some (some (.cells st' false T fz cs))) (hst : st' = st) (hle : n * kk ≤ cs.length) :
    cellsK (S l nx) kk (.gr r st 0 n kk) k = k n (cs.take (n * kk)) := by
  show cond (Nat.beq kk kk) (sAt (S l nx) r st fun b => (match b with
      | .cells _ true _ _ _ => k 0 []
      | .cells _ false _ _ cs => cond (Nat.ble (Nat.add (Nat.mul 0 kk) (Nat.mul n kk)) (lenR cs)) (dropK cs (Nat.mul 0 kk) fun d => takeK d (Nat.mul n kk) fun l => k n l) none
      | _ => none)) none = _
  rw [S_sAt h hst, beqN]
  have e : Nat.mul 0 kk = 0 := Nat.zero_mul _
  have e2 : Nat.add 0 (Nat.mul n kk) = n * kk := Nat.zero_add _
  simp only [decide_true, cond_true, e, e2, lenR_eq, Nat.ble_eq_true_of_le hle, dropK_eq, takeK_eq, List.drop_zero]
  rfl
theorem cellsK_sl {s : ES} {n kk : Nat} {cs : List AV} {k : Nat → List AV → Res} : cellsK s kk (.sl kk n cs) k = k n cs := by
  show cond (Nat.beq kk kk) (k n cs) none = _
  rw [beqN]; simp
theorem pApp_nsS {l : List (Option Blk)} {nx T kk m : Nat} {new : List AV} {k : KV} (hm0 : 0 < m) (hm : m ≤ 1048576) (hl : l.length ≤ 999999999) :
    pApp (S l nx) T kk .ns m new k = k (.gr l.length nx 0 m kk) (S (l ++ [some (.cells nx false T 0 new)]) (nx + 1)) := by
  show cond (Nat.ble m 1048576) (pPush (S l nx) (fun x => .cells x (Nat.beq m 0) T 0 new) fun r x s' => k (.gr r x 0 m kk) s') none = _
  rw [Nat.ble_eq_true_of_le hm, cond_true, S_push hl, beqN, decide_eq_false (by omega)]
theorem pApp_grS {l : List (Option Blk)} {nx r st st' T kk n m : Nat} {old new : List AV} {k : KV} (h : l[r]? = some (some (.cells st' false T 0 old))) (hst : st' = st) (hlen : old.length = n * kk) (hm0 : 0 < m) (hm : m ≤ 1048576) (hn : n ≤ 1048576) (hl : l.length ≤ 999999999) :
    pApp (S l nx) T kk (.gr r st 0 n kk) m new k = k (.gr r nx 0 (n + m) kk) (S (l.set r (some (.cells nx false T 0 (old ++ new)))) (nx + 1)) := by
  show cond (Nat.ble m 1048576) (cond (Nat.beq kk kk) (cond (Nat.ble n 1048576) (sAt (S l nx) r st fun b => (match b with
      | .cells _ true _ _ _ => cond (Nat.beq m 0) (k (.gr r st 0 n kk) (S l nx)) (pPut1 (S l nx) r (fun x => .cells x false T 0 new) fun x s' => k (.gr r x 0 m kk) s')
      | .cells _ false T' fz old => cond (Nat.beq m 0) (k (.gr r st 0 n kk) (S l nx))
          (cond (Nat.beq T' T) (cond (Nat.beq 0 0)
            (cond (Nat.ble (Nat.mul n kk) (lenR old)) (cond (Nat.ble fz (Nat.succ (Nat.mul n kk))) (appK (cnl (Nat.beq (Nat.mul n kk) (lenR old)) old (takeR old (Nat.mul n kk))) new fun all => frcN (Nat.add n m) fun nm =>
              pPut1 (S l nx) r (fun x => .cells x false T fz all) fun x s' => k (.gr r x 0 nm kk) s') none) none)
            (cond (Nat.ble (Nat.add (Nat.mul 0 kk) (Nat.mul n kk)) (lenR old)) (cond (Nat.ble fz 1) (appK (takeR (dropR old (Nat.mul 0 kk)) (Nat.mul n kk)) new fun all => frcN (Nat.add n m) fun nm =>
              pPut1 (S l nx) r (fun x => .cells x false T 1 all) fun x s' => k (.gr r x 0 nm kk) s') none) none)) none)
      | _ => none)) none) none) none = _
  have e1 : Nat.beq kk kk = true := by rw [beqN]; simp
  have e3 : Nat.beq T T = true := by rw [beqN]; simp
  have e4 : Nat.beq m 0 = false := by rw [beqN]; exact decide_eq_false (by omega)
  have e5 : Nat.ble 0 (Nat.succ (Nat.mul n kk)) = true := rfl
  have e6 : Nat.ble (Nat.mul n kk) (lenR old) = true := by rw [lenR_eq]; exact Nat.ble_eq_true_of_le (by rw [hlen]; exact Nat.le_refl _)
  rw [Nat.ble_eq_true_of_le hm, e1, Nat.ble_eq_true_of_le hn, cond_true, cond_true, cond_true, S_sAt h hst]
  simp only [e4, cond_false, e3, cond_true, show Nat.beq 0 0 = true from rfl, e6, e5, cnl_eq, appK_eq, frcN_eq]
  rw [S_put1 ((List.getElem?_eq_some_iff.1 h).1) hl, List.take_of_length_le (by rw [hlen]; exact Nat.le_refl _)]
  rfl
section
variable (I : Ids)
def colV (x : Nat) (a : List Int) : AV := match a with
  | [] => .ns
  | _ => .gr 4 x 0 a.length 1
noncomputable def colL (q : LoopState) (a : List Int) (x : Nat) (lit : Option Blk) (g : List (Option Blk)) : List (Option Blk) :=
  some (.cells 0 false (I.t 12) 0 [colV x a]) :: some (.dfr 1) :: some (.loop 2 q none 13 (envL [(2, .p 0 0 1 0 0)]) [7] (I.x 2) (I.x 3) 1 1) ::
    (match a with
    | [] => []
    | _ => lit :: some (.cells x false (I.t 10) 0 (a.map (.i .i64))) :: g)
def ColInv (a : List Int) (s : ES) : Prop := ∃ x lit g nx, g.length ≤ a.length ∧ s = S (colL I .ready a x lit g) nx ∧ (a = [] → nx = 3)
theorem col_round {R1 R2 : Rec} (hA : ∀ f s, R1.b 13 (I.x 2) f s = C0_AppSeqI I R2 f s) (hB : ∀ f s, R1.b 13 (I.x 3) f s = C1_AppSeqI I R2 f s) {a : List Int} {s : ES} {z : Int} (h : ColInv I a s) (ha : a.length < 1000000) :
    ∃ s', ColInv I (a ++ [z]) s' ∧ ∀ k, eRound R1.b 2 2 [.i .i64 z] s k = k (.b true) s' := by
  obtain ⟨x, lit, g, nx, hg, rfl, h3⟩ := h
  cases a with
  | nil =>
    have hb : C1_AppSeqI I R2 (envL [(2, .p 0 0 1 0 0), (5, .i .i64 z)]) (S (colL I .busy [] x lit g) nx) = some (.ex .normal (envL []) (S (colL I .busy [z] (nx + 1) (some (.cells nx false (I.t 10) 0 [.i .i64 z])) []) (nx + 1 + 1))) := by
      unfold C1_AppSeqI
      show (pLoad (S (colL I .busy [] x lit g) nx) false 1 (.p 0 0 1 0 0) fun v4 => pLit (S (colL I .busy [] x lit g) nx) (I.t 10) 1 1 [(.i .i64 0)] [(0,1,.i .i64 z)] fun v5 s6 => pAppend s6 (I.t 10) 1 v4 v5 fun v7 s8 => pStore s8 1 (.p 0 0 1 0 0) v7 fun v9 s10 => some (.ex .normal (envL []) s10)) = _
      rw [pLoad_Sf (r := 0) (st' := 0) (cs := [.ns]) (T := I.t 12) (fz := 0) rfl rfl (by decide) (by simp)]
      simp only [List.getElem?_cons_zero, Nat.add_zero, Nat.mul_one, kont_v]
      rw [pLit_S (by simp [colL]), fillK_cons (AV.cells_i _ _) (by rfl) (by simp)]
      simp only [fillK_nil, List.nil_append, List.append_nil, List.drop_succ_cons, List.drop_nil, List.take_zero, Nat.zero_add]
      unfold pAppend
      rw [cellsK_gr (r := (colL I .busy [] x lit g).length) (st' := nx) (T := I.t 10) (fz := 0) (cs := [.i .i64 z]) (by simp) rfl (by simp)]
      simp only [List.take_succ_cons, List.take_nil, Nat.mul_one]
      rw [pApp_nsS (by decide) (by decide) (by simp [colL])]
      rw [pStore_S (n := 1) (kk := 1) (r := 0) (st' := 0) (T := I.t 12) (old := [.ns]) rfl rfl rfl rfl (by decide) (by simp) (by simp [colL])]
      rfl
    refine ⟨_, ⟨nx + 1, some (.cells nx false (I.t 10) 0 [.i .i64 z]), [], nx + 1 + 1, by simp, rfl, by simp⟩, fun k => ?_⟩
    rw [round_S (l1 := colL I .ready [] x lit g) (nx1 := nx) (N := 13) (ρ := envL [(2, .p 0 0 1 0 0)]) (ps := [7]) (xa := I.x 2) (xb := I.x 3) (dr := 1) (ds := 1) rfl rfl (by rw [hA]; rfl) rfl (by simp [colL])
      (by rw [hB]; exact hb) rfl (by simp [colL])]
    rfl
  | cons y a =>
    have hb : C1_AppSeqI I R2 (envL [(2, .p 0 0 1 0 0), (5, .i .i64 z)]) (S (colL I .busy (y :: a) x lit g) nx) = some (.ex .normal (envL []) (S (colL I .busy (y :: (a ++ [z])) (nx + 1) lit (g ++ [some (.cells nx false (I.t 10) 0 [.i .i64 z])])) (nx + 1 + 1))) := by
      have hlen : (colL I .busy (y :: a) x lit g).length = g.length + 5 := by simp [colL]
      simp only [List.length_cons] at ha hg
      unfold C1_AppSeqI
      show (pLoad (S (colL I .busy (y :: a) x lit g) nx) false 1 (.p 0 0 1 0 0) fun v4 => pLit (S (colL I .busy (y :: a) x lit g) nx) (I.t 10) 1 1 [(.i .i64 0)] [(0,1,.i .i64 z)] fun v5 s6 => pAppend s6 (I.t 10) 1 v4 v5 fun v7 s8 => pStore s8 1 (.p 0 0 1 0 0) v7 fun v9 s10 => some (.ex .normal (envL []) s10)) = _
      rw [pLoad_Sf (r := 0) (st' := 0) (cs := [.gr 4 x 0 (y :: a).length 1]) (T := I.t 12) (fz := 0) rfl rfl (by decide) (by simp)]
      simp only [List.length_cons, List.getElem?_cons_zero, Nat.add_zero, Nat.mul_one, kont_v]
      rw [pLit_S (by omega), fillK_cons (AV.cells_i _ _) (by rfl) (by simp)]
      simp only [fillK_nil, List.nil_append, List.append_nil, List.drop_succ_cons, List.drop_nil, List.take_zero, Nat.zero_add]
      unfold pAppend
      rw [cellsK_gr (r := (colL I .busy (y :: a) x lit g).length) (st' := nx) (T := I.t 10) (fz := 0) (cs := [.i .i64 z]) (by simp) rfl (by simp)]
      simp only [List.take_succ_cons, List.take_nil, Nat.mul_one]
      rw [pApp_grS (r := 4) (st' := x) (old := (y :: a).map (.i .i64)) rfl rfl (by simp) (by decide) (by decide) (by omega) (by simp [hlen]; omega)]
      rw [pStore_S (n := 1) (kk := 1) (r := 0) (st' := 0) (T := I.t 12) (old := [.gr 4 x 0 (y :: a).length 1]) rfl rfl rfl rfl (by decide) (by simp) (by simp [hlen]; omega)]
      simp [colL, colV, List.length_nil, List.length_cons, List.nil_append, List.cons_append, List.append_nil, List.length_append, List.drop_succ_cons, List.drop_nil, List.take_zero, List.set_cons_zero, List.set_cons_succ, Nat.zero_add, Nat.add_zero, Nat.mul_one]
    refine ⟨_, ⟨nx + 1, lit, g ++ [some (.cells nx false (I.t 10) 0 [.i .i64 z])], nx + 1 + 1, by simp; simpa using hg, rfl, by simp⟩, fun k => ?_⟩
    simp only [List.length_cons] at ha hg
    rw [round_S (l1 := colL I .ready (y :: a) x lit g) (nx1 := nx) (N := 13) (ρ := envL [(2, .p 0 0 1 0 0)]) (ps := [7]) (xa := I.x 2) (xb := I.x 3) (dr := 1) (ds := 1) rfl rfl (by rw [hA]; rfl) rfl (by simp [colL]; omega)
      (by rw [hB]; exact hb) rfl (by simp [colL]; omega)]
    rfl
theorem appSeq_run {R1 R2 R3 : Rec} (hA : ∀ f s, R2.b 13 (I.x 2) f s = C0_AppSeqI I R3 f s) (hB : ∀ f s, R2.b 13 (I.x 3) f s = C1_AppSeqI I R3 f s) {g : Nat} {caps : List AV} {seq : List Int} (hs : seq.length < 1000000)
    (hiter : ∀ (Inv : List Int → ES → Prop), (∀ a s z, Inv a s → a.length < 1000000 → ∃ s', Inv (a ++ [z]) s' ∧ ∀ k, eRound R2.b 2 2 [.i .i64 z] s k = k (.b true) s') → ∀ s, Inv [] s → ∃ s', Inv seq s' ∧ R1.h g (.fy 2 2 :: caps) s = some (.ret (.tup []) s')) :
    (seq = [] → ∃ s', B_AppSeqI I R1 [.ns, .fn (.func g) [] caps] (S [] 0) = some (.ret .ns s')) ∧
    (seq ≠ [] → ∃ x l nx, B_AppSeqI I R1 [.ns, .fn (.func g) [] caps] (S [] 0) = some (.ret (.gr 4 x 0 seq.length 1) (S l nx)) ∧ l[4]? = some (some (.cells x false (I.t 10) 0 (seq.map (.i .i64))))) := by
  obtain ⟨s', ⟨x, lit, g', nx, hg, rfl, _⟩, hrun⟩ := hiter (ColInv I) (fun a s z h ha => col_round I hA hB h ha) (S (colL I .ready [] 0 none []) 3) ⟨0, none, [], 3, by simp, rfl, fun _ => rfl⟩
  have hlen : (colL I .ready seq x lit g').length ≤ 999999999 := by cases seq <;> simp [colL] <;> simp at hg hs <;> omega
  have h0 : ∀ q, (colL I q seq x lit g')[0]? = some (some (.cells 0 false (I.t 12) 0 [colV x seq])) := fun q => by cases seq <;> rfl
  have h1 : ∀ q, (colL I q seq x lit g')[1]? = some (some (.dfr 1)) := fun q => by cases seq <;> rfl
  have key : B_AppSeqI I R1 [.ns, .fn (.func g) [] caps] (S [] 0) = some (.ret (colV x seq) (S (((colL I .ready seq x lit g').set 2 none).set 1 none) nx)) := by
    unfold B_AppSeqI
    rw [args2, pBox_S (cs := [.ns]) rfl (by simp)]
    simp only [jn_d, List.length_nil, List.length_cons, List.nil_append, Nat.zero_add]
    rw [pRange_S rfl (by simp)]
    simp only [List.length_nil, List.length_cons, List.nil_append, List.cons_append, Nat.zero_add, Nat.reduceAdd]
    show callK (R1.h g (.fy 2 2 :: caps) (S (colL I .ready [] 0 none []) 3)) _ = _
    rw [hrun]
    simp only [callK_ret]
    rw [eRangeEnd_S (N := 13) (ρ := envL [(2, .p 0 0 1 0 0)]) (ps := [7]) (xa := I.x 2) (xb := I.x 3) (dr := 1) (ds := 1) (by cases seq <;> rfl) hlen]
    unfold B_AppSeqIj1
    rw [pLoad_Sf (r := 0) (st' := 0) (cs := [colV x seq]) (T := I.t 12) (fz := 0) (by rw [List.getElem?_set]; simp [h0]) rfl (by decide) (by simp)]
    simp only [List.getElem?_cons_zero, Nat.add_zero, Nat.mul_one, kont_v]
    rw [eLeave_S (r := 1) (st := 1) (by rw [List.getElem?_set]; simp [h1]) (by simpa using hlen)]
    rfl
  refine ⟨fun h => ?_, fun h => ?_⟩
  · subst h; exact ⟨_, key⟩
  · refine ⟨x, ((colL I .ready seq x lit g').set 2 none).set 1 none, nx, ?_, ?_⟩
    · rw [key]
      cases seq with
      | nil => exact absurd rfl h
      | cons y a => rfl
    · cases seq with
      | nil => exact absurd rfl h
      | cons y a => rfl
def collF (G : List AV → Option (List Int)) : List AV → Option (Nat × Nat × Nat × List AV) := fun as => match G as with
  | some seq => if seq.length < 1000000 then some (I.t 10, seq.length, 1, seq.map (.i .i64)) else none
  | none => none
theorem coll_c {R R1 R2 R3 : Rec} (h1 : ∀ args s, R.f (I.f 27) args s = B_AppSeqI I R1 args s) (hA : ∀ f s, R2.b 13 (I.x 2) f s = C0_AppSeqI I R3 f s) (hB : ∀ f s, R2.b 13 (I.x 3) f s = C1_AppSeqI I R3 f s) {G : List AV → Option (List Int)}
    (hG : ∀ as seq, G as = some seq → ∃ g caps, as = [.fn (.func g) [] caps] ∧ ∀ (Inv : List Int → ES → Prop), (∀ a s z, Inv a s → a.length < 1000000 → ∃ s', Inv (a ++ [z]) s' ∧ ∀ k, eRound R2.b 2 2 [.i .i64 z] s k = k (.b true) s') → ∀ s, Inv [] s → ∃ s', Inv seq s' ∧ R1.h g (.fy 2 2 :: caps) s = some (.ret (.tup []) s'))
    (as : List AV) (T n k : Nat) (cs : List AV) (h : collF I G as = some (T, n, k, cs)) : (n = 0 → Tot (fun v _ => v = .ns) (B_CollectI I R as (S [] 0))) ∧ (n ≠ 0 → Tot (IsRow Fla T n k cs) (B_CollectI I R as (S [] 0))) := by
  unfold collF at h
  split at h
  case h_2 => cases h
  rename_i seq hg
  split at h
  case isFalse => cases h
  rename_i hs
  cases h
  obtain ⟨g, caps, rfl, hi⟩ := hG as seq hg
  obtain ⟨k1, k2⟩ := appSeq_run I hA hB hs hi
  refine ⟨fun h => ?_, fun h => ?_⟩
  · obtain ⟨s', hr⟩ := k1 (List.eq_nil_of_length_eq_zero h)
    unfold B_CollectI
    simp only [args1, callK_ret, h1, hr]
    exact Tot.ret rfl
  · obtain ⟨x, l, nx, hr, hl⟩ := k2 (fun e => h (by rw [e]; rfl))
    unfold B_CollectI
    simp only [args1, callK_ret, h1, hr]
    refine Tot.ret ⟨4, x, x, _, rfl, ?_, InlL.same ?_⟩
    · rw [S_st]
      exact Store.at_of hl rfl
    · rw [FlaL_iff]
      intro y hy
      obtain ⟨b, _, rfl⟩ := List.mem_map.1 hy
      simp only [Fla]
def allG : List AV → Option (List Int)
  | [.fn (.func k) [] [.pe [v] 1 0 0]] => if k = I.f 8 then (match encB.decS v with
    | some bs => if bs.length < 30000 then some ((trues bs 0).map fun (n : Nat) => (n : Int)) else none
    | none => none) else none
  | _ => none
theorem allG_ok {R1 R2 : Rec} (h2 : ∀ args s, R1.h (I.f 8) args s = B_mall1 I R2 args s) (as : List AV) (seq : List Int) (h : allG I as = some seq) :
    ∃ g caps, as = [.fn (.func g) [] caps] ∧ ∀ (Inv : List Int → ES → Prop), (∀ a s z, Inv a s → a.length < 1000000 → ∃ s', Inv (a ++ [z]) s' ∧ ∀ k, eRound R2.b 2 2 [.i .i64 z] s k = k (.b true) s') → ∀ s, Inv [] s → ∃ s', Inv seq s' ∧ R1.h g (.fy 2 2 :: caps) s = some (.ret (.tup []) s') := by
  unfold allG at h
  split at h
  case h_2 => cases h
  rename_i k v
  split at h
  case isFalse => cases h
  rename_i hk
  split at h
  case h_2 => cases h
  rename_i bs hv
  split at h
  case isFalse => cases h
  rename_i hl
  cases h
  subst hk
  refine ⟨_, _, rfl, fun Inv hr s h0 => ?_⟩
  obtain ⟨s', q1, q2⟩ := mall1_iter (I := I) (R := R2) (cap := .pe [v] 1 0 0) (r := 2) (st := 2) hv hl (fun a s => Inv (a.map fun (n : Nat) => (n : Int)) s) (fun a s z ha hal hz => by
    obtain ⟨s', e1, e2⟩ := hr _ s (z : Nat) ha (by simp; omega)
    exact ⟨s', by simpa using e1, e2⟩) s h0 (fun k => by rw [pLoad_pe, loadK_fm (by decide) (by simp)]; rfl)
  exact ⟨s', q1, by rw [h2]; exact q2⟩
end
end Hb
end

section
set_option linter.unusedVariables false
set_option linter.unusedSimpArgs false
set_option linter.constructorNameAsVariable false
set_option autoImplicit false
set_option linter.unusedVariables false
set_option linter.unusedSimpArgs false
set_option linter.constructorNameAsVariable false
namespace Hb
open Go
theorem S_at {l : List (Option Blk)} {nx r st : Nat} {b : Blk} (h : l[r]? = some (some b)) (hb : b.st = st) : atR (S l nx) r st = some b := by
  rw [atR_eq]
  exact ES.at_of (show r < l.length from (List.getElem?_eq_some_iff.1 h).1) (S_get h) hb
theorem inlN_gr {f : Nat} {l : List (Option Blk)} {nx r st st' T fz n k : Nat} {cs : List AV} (h : l[r]? = some (some (.cells st' false T fz cs))) (hst : st' = st) (hc : CloL cs) (hle : n * k ≤ cs.length) :
    inlN (f + 2) (S l nx) (.gr r st 0 n k) = some (.sl k n (cs.take (n * k))) := by
  rw [inlN_s]
  show inl1 (inlN (f + 1) (S l nx)) (S l nx) (.gr r st 0 n k) = _
  unfold inl1
  simp only
  rw [S_at h hst]
  simp only [lenR_eq, takeR_eq, dropR_eq]
  have e : Nat.mul (Nat.add 0 n) k = n * k := by show (0 + n) * k = n * k; rw [Nat.zero_add]
  have e2 : Nat.mul 0 k = 0 := Nat.zero_mul _
  have e3 : Nat.mul n k = n * k := rfl
  have ht : CloL (cs.take (n * k)) := by
    rw [CloL_iff] at hc ⊢
    exact fun x hx => hc x (List.mem_of_mem_take hx)
  rw [e, e2, e3, Nat.ble_eq_true_of_le hle, List.drop_zero, mapO_clo ht]
  rfl
theorem inlN_p {f : Nat} {l : List (Option Blk)} {nx r st st' T fz k i o : Nat} {cs cs' : List AV} (h : l[r]? = some (some (.cells st' false T fz cs))) (hst : st' = st) (hc : mapO (inlN f (S l nx)) cs = some cs') :
    inlN (f + 1) (S l nx) (.p r st k i o) = some (.pe cs' k i o) := by
  rw [inlN_s]
  show inl1 (inlN f (S l nx)) (S l nx) (.p r st k i o) = _
  unfold inl1
  simp only
  rw [S_at h hst]
  simp only [hc]
theorem inlN_fn {f : Nat} {s : ES} {g : Fn} {a b a' b' : List AV} (hn : cloB (.fn g a b) = false) (ha : mapO (inlN f s) a = some a') (hb : mapO (inlN f s) b = some b') : inlN (f + 1) s (.fn g a b) = some (.fn g a' b') := by
  rw [inlN_s, hn]
  show inl1 (inlN f s) s (.fn g a b) = _
  unfold inl1
  simp only [ha, hb]
theorem mapO_c {f : Nat} {s : ES} {x x' : AV} {l l' : List AV} (hx : inlN f s x = some x') (hl : mapO (inlN f s) l = some l') : mapO (inlN f s) (x :: l) = some (x' :: l') := by
  rw [mapO_cons, hx, hl]
inductive Side where
  | set (l : List (Int × Int))
  | none
def encSide : Enc Side where
  k := 5
  enc a := match a with
    | .set l => [.i .i64 1, .i .i64 0, encRange.sl l, .s [], .ns]
    | .none => [.i .i64 3, .i .i64 0, .ns, .s [], .ns]
  dec cs := match cs with
    | [.i .i64 1, .i .i64 0, .sl 2 n cs, .s [], .ns] => (encRange.decL n cs).map .set
    | [.i .i64 3, .i .i64 0, .ns, .s [], .ns] => some .none
    | _ => Option.none
  pos := by decide
  len a := by cases a <;> rfl
  ok a := by
    cases a with
    | set l => show (encRange.decL l.length (encRange.encL l)).map _ = _; rw [encRange.decL_enc]; rfl
    | none => rfl
  inv cs a h := by
    split at h
    · rename_i n cs
      cases hd : encRange.decL n cs with
      | none => rw [hd] at h; cases h
      | some l =>
        rw [hd] at h
        cases h
        obtain ⟨e1, e2⟩ := encRange.decL_inv hd
        subst e1 e2
        rfl
    · cases h; rfl
    · cases h
  clo a := by
    cases a with
    | set l => simp only [CloL, Clo, and_self, and_true, true_and]; exact encRange.clo_sl l
    | none => simp only [CloL, Clo, and_self]
def indV (n i : Nat) : List Bool := (List.replicate (n + 1) false).set i true
def leadsV (e : Side) (l : List Int) (i : Nat) (back : Bool) : List Nat := match e with
  | .none => trues (indV l.length i) 0
  | .set s => trues (oneV l back s (indV l.length i)) 0
def walkV (e : Side) (l : List Int) (back : Bool) (bs : List Bool) : List Bool := match e with
  | .none => bs
  | .set s => oneV l back s bs
def sideOk : Side → Bool
  | .set s => decide (s.length < 30000)
  | .none => true
section
variable (I : Ids)
theorem oneV_len (l : List Int) (back : Bool) (set : List (Int × Int)) (bs : List Bool) : (oneV l back set bs).length = l.length + 1 := by
  unfold oneV
  have hfl : ∀ (a : List Nat) (o : List Bool), (a.foldl (markV l back set) o).length = o.length := by
    intro a
    induction a with
    | nil => intro o; rfl
    | cons z a ih => intro o; rw [List.foldl_cons, ih, markV_len]
  rw [hfl]; simp
theorem walk_run {R : Rec} (hone : ∀ args s, R.f (I.f 10) args s = rowOv (oneF I) R args s) {e : Side} {t : AV} {l : List Int} {back : Bool} {σ : List (Option Blk)} {nx r st : Nat} {bs : List Bool} (ht : encR32.decS t = some l) (hl : l.length < 20000) (he : sideOk e = true) (hbs : bs.length = l.length + 1)
    (hr : σ[r]? = some (some (.cells st false (I.t 3) 0 (bs.map .b)))) (hσ : σ.length < 1000) :
    ∃ r' st' σ' nx', B_mwalk I R [.agg [t, .b back], .agg (encSide.enc e), .gr r st 0 (l.length + 1) 1] (S σ nx) = some (.ret (.gr r' st' 0 (l.length + 1) 1) (S σ' nx')) ∧ σ'.length ≤ σ.length + 3 ∧ (∀ q, q < σ.length → σ'[q]? = σ[q]?) ∧
      σ'[r']? = some (some (.cells st' false (I.t 3) 0 ((walkV e l back bs).map .b))) := by
  have hc : Clo t := encR32.clo_of ht
  have hrl : r < σ.length := (List.getElem?_eq_some_iff.1 hr).1
  let σ1 : List (Option Blk) := σ ++ [some (.cells nx false (I.t 2) 0 [t, .b back]), some (.cells (nx + 1) false (I.t 6) 0 (encSide.enc e))]
  have g0 : σ1[σ.length]? = some (some (.cells nx false (I.t 2) 0 [t, .b back])) := by simp [σ1]
  have g1 : σ1[σ.length + 1]? = some (some (.cells (nx + 1) false (I.t 6) 0 (encSide.enc e))) := by
    show (σ ++ _)[σ.length + 1]? = _
    rw [List.getElem?_append_right (by omega)]; simp
  have g2 : σ1[r]? = some (some (.cells st false (I.t 3) 0 (bs.map .b))) := by
    show (σ ++ _)[r]? = _
    rw [List.getElem?_append_left hrl, hr]
  have hl1 : σ1.length = σ.length + 2 := by simp [σ1]
  have start : ∀ C : AV → AV → ES → Res, (pBox (S σ nx) (I.t 2) (.agg [t, .b back]) fun v5 s6 => pBox s6 (I.t 6) (.agg (encSide.enc e)) fun v7 s8 => C v5 v7 s8) = C (.p σ.length nx 2 0 0) (.p (σ.length + 1) (nx + 1) 5 0 0) (S σ1 (nx + 1 + 1)) := by
    intro C
    rw [pBox_S (AV.cells_agg _) (by omega), pBox_S (AV.cells_agg _) (by simp; omega)]
    simp only [List.length_append, List.length_cons, List.length_nil, encSide.len, List.append_assoc, List.cons_append, List.nil_append, Nat.zero_add]
    rfl
  unfold B_mwalk
  rw [args3, start]
  simp only [jn_d]
  rw [pFadr_p g1 rfl, pLoad_Sf g1 rfl (by decide) (by rw [encSide.len]; decide)]
  cases e with
  | none =>
    refine ⟨r, st, σ1, nx + 1 + 1, ?_, by omega, fun q hq => ?_, g2⟩
    · simp [encSide, eCond_b, bEql_i, cond_true, cond_false, List.length_nil, List.length_cons, Nat.zero_add, Nat.add_zero, Nat.zero_mul, Nat.reduceAdd, kont_v]
    · show (σ ++ _)[q]? = _
      rw [List.getElem?_append_left hq]
  | set s =>
    have hs : s.length < 30000 := by simpa [sideOk] using he
    have hone1 : R.f (I.f 10) [.agg [t, .b back], encRange.sl s, .gr r st 0 (l.length + 1) 1] (S σ1 (nx + 1 + 1)) = some (.ret (.gr σ1.length (nx + 1 + 1) 0 (l.length + 1) 1) (S (σ1 ++ [some (.cells (nx + 1 + 1) false (I.t 3) 0 ((oneV l back s bs).map .b))]) (nx + 1 + 1 + 1))) := by
      rw [hone]
      refine rowOv_S (as := [.agg [t, .b back], encRange.sl s, .sl 1 (l.length + 1) (bs.map .b)]) ?_ ?_ (by omega) (by omega)
      · refine mapO_c (inlN_clo (by simp only [Clo, CloL, and_self, and_true]; exact hc)) (mapO_c (inlN_clo (encRange.clo_sl s)) (mapO_c ?_ rfl))
        rw [inlN_gr g2 rfl (by rw [CloL_iff]; intro x hx; obtain ⟨b, _, rfl⟩ := List.mem_map.1 hx; simp only [Clo]) (by simp; omega)]
        rw [List.take_of_length_le (by simp; omega)]
      · have hb : encB.decS (.sl 1 (l.length + 1) (bs.map .b)) = some bs := by
          have := encB.decS_sl bs
          rw [Enc.sl, hbs] at this
          have e2 : encB.encL bs = bs.map .b := by
            simp only [Enc.encL]
            rw [← List.flatMap_singleton' (bs.map AV.b)]
            simp [List.flatMap_map, encB]
          rw [e2] at this
          exact this
        simp only [oneF, ht, encRange.decS_sl, hb]
        rw [if_pos ⟨hl, hs, hbs⟩]
    refine ⟨σ1.length, nx + 1 + 1, σ1 ++ [some (.cells (nx + 1 + 1) false (I.t 3) 0 ((oneV l back s bs).map .b))], nx + 1 + 1 + 1, ?_, by simp [σ1], fun q hq => ?_, by simp [walkV]⟩
    · simp only [encSide, eCond_b, bEql_i, cond_true, List.getElem?_cons_zero, Nat.add_zero, Nat.zero_mul, kont_v, decide_true]
      rw [pLoad_St g0 rfl (by decide) (by simp), pFadr_p g1 rfl, pLoad_Sf g1 rfl (by decide) (by rw [encSide.len]; decide)]
      simp only [encSide, callK_ret, List.getElem?_cons_zero, List.getElem?_cons_succ, List.drop_zero, List.take_succ_cons, List.take_nil, Nat.zero_add, Nat.add_zero, Nat.zero_mul, kont_v, hone1]
    · show ((σ ++ _) ++ _)[q]? = _
      rw [List.append_assoc, List.getElem?_append_left hq]
def leadsF (isOk : List AV → Bool) : List AV → Option (Nat × Nat × Nat × List AV)
  | [.agg e, t, .i .i64 z, .b back] => match encSide.dec e, encR32.decS t with
    | some sd, some l => if isOk e = true ∧ sideOk sd = true ∧ l.length < 20000 ∧ 0 ≤ z ∧ z ≤ l.length then some (I.t 10, (leadsV sd l z.toNat back).length, 1, ((leadsV sd l z.toNat back).map fun (n : Nat) => (n : Int)).map (.i .i64)) else none
    | _, _ => none
  | _ => none
theorem trues_le : ∀ (bs : List Bool) (i : Nat), (trues bs i).length ≤ bs.length
  | [], _ => Nat.le_refl _
  | b :: bs, i => by
    have := trues_le bs (i + 1)
    cases b <;> simp [trues] <;> omega
theorem leads_c {R R1 : Rec} {isOk : List AV → Bool} (his : ∀ e, isOk e = true → ∀ s, R.f (I.f 14) [.agg e] s = some (.ret (.b true) s)) (hnone : ∀ args s, R.f (I.f 4) args s = rowOv (noneF I) R args s)
    (hwalk : ∀ args s, R.f (I.f 9) args s = B_mwalk I R1 args s) (hone : ∀ args s, R1.f (I.f 10) args s = rowOv (oneF I) R1 args s) (hall : ∀ args s, R.f (I.f 5) args s = B_mall I R1 args s) {G : List AV → Option (List Int)} (hGa : ∀ as seq, allG I as = some seq → G as = some seq)
    (hcoll : ∀ args s, R.f (I.f 13) args s = rowOv (collF I G) R args s) (as : List AV) (T n k : Nat) (cs : List AV) (h : leadsF I isOk as = some (T, n, k, cs)) :
    (n = 0 → Tot (fun v _ => v = .ns) (B_leads I R as (S [] 0))) ∧ (n ≠ 0 → Tot (IsRow Fla T n k cs) (B_leads I R as (S [] 0))) := by
  unfold leadsF at h
  split at h
  case h_2 => cases h
  rename_i e0 t z back
  split at h
  case h_2 => cases h
  rename_i e l he0 ht
  have := encSide.inv _ _ he0
  subst this
  split at h
  case isFalse => cases h
  rename_i hc
  obtain ⟨hok, hso, hl, hz0, hz1⟩ := hc
  obtain ⟨i, rfl⟩ : ∃ m : Nat, z = m := ⟨z.toNat, by omega⟩
  simp only [Int.toNat_natCast] at h
  have hi : i ≤ l.length := by omega
  cases h
  have hcl : Clo t := encR32.clo_of ht
  let bs : List Bool := indV l.length i
  have hbs : bs.length = l.length + 1 := by simp [bs, indV]
  let res : List Bool := walkV e l back bs
  have hres : res.length = l.length + 1 := by
    cases e with
    | none => exact hbs
    | set s => exact oneV_len _ _ _ _
  have hlv : leadsV e l i back = trues res 0 := by cases e <;> rfl
  rw [hlv]
  let σ0 : List (Option Blk) := [some (.cells 0 false (I.t 6) 0 (encSide.enc e)), some (.cells 1 false (I.t 2) 0 [t, .b back]), some (.cells 2 false (I.t 3) 0 (bs.map .b))]
  have g0 : ∀ x, ([some (.cells 0 false (I.t 6) 0 (encSide.enc e)), some (.cells 1 false (I.t 2) 0 [t, .b back]), x] : List (Option Blk))[0]? = some (some (.cells 0 false (I.t 6) 0 (encSide.enc e))) := fun _ => rfl
  have g1 : ∀ x, ([some (.cells 0 false (I.t 6) 0 (encSide.enc e)), some (.cells 1 false (I.t 2) 0 [t, .b back]), x] : List (Option Blk))[1]? = some (some (.cells 1 false (I.t 2) 0 [t, .b back])) := fun _ => rfl
  obtain ⟨r', st', σ', nx', hw, hw1, hw2, hw3⟩ := walk_run I (R := R1) hone (e := e) (back := back) (σ := σ0) (nx := 3) (r := 2) (st := 2) (bs := bs) ht hl hso hbs rfl (by simp [σ0])
  have hw3 : σ'[r']? = some (some (.cells st' false (I.t 3) 0 (res.map .b))) := hw3
  have hσ' : σ'.length ≤ 6 := hw1
  have hn1 : ∀ (σ : List (Option Blk)) (nx : Nat), σ.length ≤ 999999999 → R.f (I.f 4) [.agg [t, .b back]] (S σ nx) = some (.ret (.gr σ.length nx 0 (l.length + 1) 1) (S (σ ++ [some (.cells nx false (I.t 3) 0 (List.replicate (l.length + 1) (.b false)))]) (nx + 1))) := fun σ nx hσ => by
    rw [hnone]
    exact rowOv_S (mapO_clo (by simp only [CloL, Clo, and_self, and_true]; exact hcl)) (by simp only [noneF, ht]; rw [if_pos (by omega)]) (by simp) hσ
  let σ2 : List (Option Blk) := σ' ++ [some (.cells nx' false (I.t 5) 0 [.gr r' st' 0 (l.length + 1) 1])]
  have hr' : r' < σ'.length := (List.getElem?_eq_some_iff.1 hw3).1
  have hin : mapO (inlN 4 (S σ2 (nx' + 1))) [.fn (.func (I.f 8)) [] [.p σ'.length nx' 1 0 0]] = some [.fn (.func (I.f 8)) [] [.pe [.sl 1 (l.length + 1) (res.map .b)] 1 0 0]] := by
    refine mapO_c (inlN_fn rfl rfl (mapO_c (inlN_p (cs := [.gr r' st' 0 (l.length + 1) 1]) (T := I.t 5) (fz := 0) (by simp [σ2]) rfl (mapO_c ?_ rfl)) rfl)) rfl
    rw [inlN_gr (f := 0) (T := I.t 3) (fz := 0) (cs := res.map .b) (by show (σ' ++ _)[r']? = _; rw [List.getElem?_append_left hr']; exact hw3) rfl (by rw [CloL_iff]; intro x hx; obtain ⟨b, _, rfl⟩ := List.mem_map.1 hx; simp only [Clo]) (by simp; omega)]
    rw [List.take_of_length_le (by simp; omega)]
  have hdec : encB.decS (.sl 1 (l.length + 1) (res.map .b)) = some res := by
    have := encB.decS_sl res
    rw [Enc.sl, hres] at this
    have e2 : encB.encL res = res.map .b := by
      simp only [Enc.encL]
      rw [← List.flatMap_singleton' (res.map AV.b)]
      simp [List.flatMap_map, encB]
    rw [e2] at this
    exact this
  have hcF : collF I G [.fn (.func (I.f 8)) [] [.pe [.sl 1 (l.length + 1) (res.map .b)] 1 0 0]] = some (I.t 10, (trues res 0).length, 1, ((trues res 0).map fun (n : Nat) => (n : Int)).map (.i .i64)) := by
    unfold collF
    have hb : res.length < 30000 := by omega
    have := hGa [.fn (.func (I.f 8)) [] [.pe [.sl 1 (l.length + 1) (res.map .b)] 1 0 0]] _ (by simp only [allG, if_true, hdec]; rw [if_pos hb])
    rw [this]
    have := trues_le res 0
    simp only [List.length_map]
    rw [if_pos (by omega)]
  have main : ∀ Φ : AV → ES → Prop, Tot Φ (R.f (I.f 13) [.fn (.func (I.f 8)) [] [.p σ'.length nx' 1 0 0]] (S σ2 (nx' + 1))) → Tot Φ (B_leads I R [.agg (encSide.enc e), t, .i .i64 (i : Nat), .b back] (S [] 0)) := by
    intro Φ hΦ
    unfold B_leads
    rw [args4, pBox_S (AV.cells_agg _) (by simp)]
    have hd1 : decide ((i : Int) < 0) = false := by simp
    have hd2 : decide ((l.length : Int) < (i : Int)) = false := by simp; omega
    have h5 : (encSide.enc e).length = 5 := encSide.len e
    simp only [jn_d, jv_d, eCond_b, eGuard_b, pPick_b, bLss_i, bGtr_i, cond_true, cond_false, Bool.not_true, Bool.not_false, List.length_nil, List.nil_append, Nat.zero_add, h5, hd1, encR32.pLen_v ht, hd2]
    rw [pLoad_St (r := 0) (st' := 0) (cs := encSide.enc e) (T := I.t 6) (fz := 0) rfl rfl (by decide) (by rw [encSide.len]; decide)]
    have htk : List.take 5 (encSide.enc e) = encSide.enc e := by rw [List.take_of_length_le (by rw [encSide.len]; exact Nat.le_refl _)]
    simp only [callK_ret, eCond_b, pUn_not, cond_false, Bool.not_true, List.drop_zero, Nat.add_zero, Nat.zero_mul, htk, his _ hok]
    unfold B_leadsj1
    simp only [eLeave_nil, pBuild_d]
    rw [fillK_cons (encR32.cells_of ht) (by rfl) (by simp), fillK_cons (AV.cells_b _) (by rfl) (by simp)]
    simp only [fillK_nil, List.nil_append, List.cons_append, List.append_nil, List.drop_succ_cons, List.drop_zero, List.drop_nil, List.take_succ_cons, List.take_zero, Nat.zero_add, Nat.reduceAdd]
    rw [pRow_S (by simp)]
    simp only [List.length_nil, List.length_cons, List.nil_append, List.cons_append, Nat.zero_add, Nat.reduceAdd]
    rw [pStore_S (n := 2) (kk := 2) (l := [some (.cells 0 false (I.t 6) 0 (encSide.enc e)), some (.cells 1 false (I.t 2) 0 [.ns, .b false])]) (r := 1) (st' := 1) (T := I.t 2) (old := [.ns, .b false]) rfl rfl (AV.cells_agg _) rfl (by decide) (by simp) (by simp)]
    simp only [List.length_nil, List.length_cons, List.nil_append, List.append_nil, List.drop_succ_cons, List.drop_nil, List.take_zero, List.set_cons_zero, List.set_cons_succ, Nat.zero_add, Nat.add_zero, Nat.zero_mul, Nat.reduceAdd]
    rw [pLoad_St (r := 1) (st' := 1) (cs := [t, .b back]) (T := I.t 2) (fz := 0) rfl rfl (by decide) (by simp)]
    simp only [List.drop_zero, List.take_succ_cons, List.take_nil, Nat.add_zero, Nat.zero_mul]
    rw [hn1 _ _ (by simp)]
    simp only [callK_ret, List.length_nil, List.length_cons, List.nil_append, List.cons_append, Nat.zero_add, Nat.reduceAdd]
    rw [pIadrS_gr (l := [some (.cells 0 false (I.t 6) 0 (encSide.enc e)), some (.cells 1 false (I.t 2) 0 [t, .b back]), some (.cells 2 false (I.t 3) 0 (List.replicate (l.length + 1) (.b false)))]) (st' := 2) (T := I.t 3) (fz := 0) rfl rfl rfl (by omega),
      pStore_S (n := 1) (kk := 1) (st' := 2) (T := I.t 3) (old := List.replicate (l.length + 1) (.b false)) rfl rfl (AV.cells_b _) rfl (by decide) (by simp; omega) (by simp)]
    have hrow : List.take ((0 + i) * 1 + 0) (List.replicate (l.length + 1) (AV.b false)) ++ ([AV.b true] ++ List.drop ((0 + i) * 1 + 0 + [AV.b true].length) (List.replicate (l.length + 1) (AV.b false))) = bs.map .b := by
      simp only [bs, indV, List.map_set, List.map_replicate]
      rw [List.set_eq_take_append_cons_drop, if_pos (by simp; omega)]
      simp only [Nat.zero_add, Nat.mul_one, Nat.add_zero, List.length_cons, List.length_nil, List.cons_append, List.nil_append]
    rw [hrow]
    simp only [List.set_cons_zero, List.set_cons_succ]
    rw [pLoad_St (r := 1) (st' := 1) (cs := [t, .b back]) (T := I.t 2) (fz := 0) rfl rfl (by decide) (by simp), pLoad_St (r := 0) (st' := 0) (cs := encSide.enc e) (T := I.t 6) (fz := 0) rfl rfl (by decide) (by rw [encSide.len]; decide)]
    simp only [List.drop_zero, List.take_succ_cons, List.take_nil, Nat.add_zero, Nat.zero_mul, htk, hwalk]
    rw [show ([some (.cells 0 false (I.t 6) 0 (encSide.enc e)), some (.cells 1 false (I.t 2) 0 [t, .b back]), some (.cells 2 false (I.t 3) 0 (bs.map .b))] : List (Option Blk)) = σ0 from rfl, hw]
    simp only [callK_ret, hall]
    unfold B_mall
    rw [args1, pBox_S (cs := [.gr r' st' 0 (l.length + 1) 1]) rfl (by omega)]
    simp only [callK_ret, List.length_nil, List.length_cons, Nat.zero_add]
    refine hΦ.call fun v s hv => ?_
    exact Tot.ret hv
  have hcr := hcoll [.fn (.func (I.f 8)) [] [.p σ'.length nx' 1 0 0]] (S σ2 (nx' + 1))
  refine ⟨fun hn => main _ ?_, fun hn => main _ ?_⟩
  · rw [hcr]
    have e0 : (trues res 0).length = 0 := by simpa using hn
    rw [rowOv_0 hin (by rw [hcF, e0])]
    exact Tot.ret rfl
  · rw [hcr]
    rw [rowOv_S hin hcF (by simpa using hn) (by simp [σ2]; omega)]
    refine Tot.ret ⟨_, _, nx' + 1, _, rfl, ?_, InlL.same ?_⟩
    · rw [S_st]
      exact Store.at_of (by simp) rfl
    · rw [FlaL_iff]
      intro y hy
      obtain ⟨b, _, rfl⟩ := List.mem_map.1 hy
      simp only [Fla]
end
end Hb
end

section
set_option linter.unusedVariables false
set_option linter.unusedSimpArgs false
set_option linter.constructorNameAsVariable false
set_option autoImplicit false
set_option linter.unusedVariables false
set_option linter.unusedSimpArgs false
set_option linter.constructorNameAsVariable false
namespace Hb
open Go
structure RuleV where
  n : Int
  br : Bool
  l : Side
  r : Side
def encRule : Enc RuleV where
  k := 12
  enc a := .i .i64 a.n :: .b a.br :: (encSide.enc a.l ++ encSide.enc a.r)
  dec cs := match cs with
    | .i .i64 n :: .b br :: t => match encSide.dec (t.take 5), encSide.dec (t.drop 5) with
      | some l, some r => some ⟨n, br, l, r⟩
      | _, _ => Option.none
    | _ => Option.none
  pos := by decide
  len a := by simp [encSide.len]; rfl
  ok a := by
    have h1 : (encSide.enc a.l ++ encSide.enc a.r).take 5 = encSide.enc a.l := List.take_left' (encSide.len a.l)
    have h2 : (encSide.enc a.l ++ encSide.enc a.r).drop 5 = encSide.enc a.r := List.drop_left' (encSide.len a.l)
    simp only [h1, h2, encSide.ok]
  inv cs a h := by
    split at h
    · rename_i n br t
      split at h
      · rename_i l r h1 h2
        cases h
        rw [← encSide.inv _ _ h1, ← encSide.inv _ _ h2, List.take_append_drop]
      · cases h
    · cases h
  clo a := by
    simp only [CloL, Clo, true_and]
    exact CloL_append (encSide.clo _) (encSide.clo _)
theorem encRule_l (a : RuleV) : ((encRule.enc a).drop 2).take 5 = encSide.enc a.l := List.take_left' (encSide.len a.l)
theorem encRule_r (a : RuleV) : ((encRule.enc a).drop 7).take 5 = encSide.enc a.r := by
  have h : (encSide.enc a.l ++ encSide.enc a.r).drop 5 = encSide.enc a.r := List.drop_left' (encSide.len a.l)
  show ((encSide.enc a.l ++ encSide.enc a.r).drop 5).take 5 = _
  rw [h, List.take_of_length_le (by rw [encSide.len]; exact Nat.le_refl _)]
theorem encRule_len (a : RuleV) : (encRule.enc a).length = 12 := encRule.len a
section
variable (I : Ids) (isOk : List AV → Bool)
def begF (back : Bool) : List AV → Option (Nat × Nat × Nat × List AV)
  | [.agg e, t, .i .i64 z] => leadsF I isOk [.agg e, t, .i .i64 z, .b back]
  | _ => none
theorem leadsF_ok {e : List AV} {t : AV} {z : Int} {back : Bool} {r : Nat × Nat × Nat × List AV} (h : leadsF I isOk [.agg e, t, .i .i64 z, .b back] = some r) : CloL e ∧ Clo t ∧ e.length = 5 ∧ r.1 = I.t 10 ∧ r.2.2.1 = 1 ∧ FlaL r.2.2.2 := by
  simp only [leadsF] at h
  split at h
  case h_2 => cases h
  rename_i sd l h1 h2
  split at h
  case isFalse => cases h
  cases h
  have := encSide.inv _ _ h1
  subst this
  refine ⟨encSide.clo sd, encR32.clo_of h2, encSide.len sd, rfl, rfl, ?_⟩
  rw [FlaL_iff]
  intro y hy
  obtain ⟨b, _, rfl⟩ := List.mem_map.1 hy
  simp only [Fla]
theorem beg_c {R : Rec} {back : Bool} (hl : ∀ args s, R.f (I.f 15) args s = rowOv (leadsF I isOk) R args s) (B : Ids → Rec → List AV → ES → Res)
    (hB : ∀ e t z s, B I R [.agg e, t, .i .i64 z] s = pBox s (I.t 6) (.agg e) fun v5 s6 => pLoad s6 true 5 v5 fun v7 => callK (R.f (I.f 15) [v7, t, .i .i64 z, .b back] s6) fun v8 s9 => some (.ret v8 s9))
    (as : List AV) (T n k : Nat) (cs : List AV) (h : begF I isOk back as = some (T, n, k, cs)) : (n = 0 → Tot (fun v _ => v = .ns) (B I R as (S [] 0))) ∧ (n ≠ 0 → Tot (IsRow Fla T n k cs) (B I R as (S [] 0))) := by
  unfold begF at h
  split at h
  case h_2 => cases h
  rename_i e t z
  obtain ⟨h1, h2, h3, _, _, hf⟩ := leadsF_ok I isOk h
  have start : B I R [.agg e, t, .i .i64 z] (S [] 0) = callK (R.f (I.f 15) [.agg e, t, .i .i64 z, .b back] (S [some (.cells 0 false (I.t 6) 0 e)] 1)) fun v8 s9 => some (.ret v8 s9) := by
    rw [hB, pBox_S (AV.cells_agg _) (by simp)]
    simp only [List.length_nil, List.nil_append, Nat.zero_add, h3]
    rw [pLoad_St (r := 0) (st' := 0) (cs := e) (T := I.t 6) (fz := 0) rfl rfl (by decide) (by omega)]
    simp only [List.drop_zero, Nat.add_zero, Nat.zero_mul]
    rw [List.take_of_length_le (by omega)]
  rw [start, hl]
  have hc : CloL [.agg e, t, .i .i64 z, .b back] := by simp only [CloL, Clo, and_true]; exact ⟨h1, h2⟩
  refine ⟨fun hn => ?_, fun hn => ?_⟩
  · subst hn
    rw [rowOv_0 (mapO_clo hc) h]
    exact Tot.ret rfl
  · rw [rowOv_S (mapO_clo hc) h hn (by simp)]
    refine Tot.ret ⟨_, _, 1, _, rfl, ?_, InlL.same hf⟩
    rw [S_st]
    exact Store.at_of (by simp) rfl
theorem Begins_c {R : Rec} (hl : ∀ args s, R.f (I.f 15) args s = rowOv (leadsF I isOk) R args s) (as : List AV) (T n k : Nat) (cs : List AV) (h : begF I isOk true as = some (T, n, k, cs)) :
    (n = 0 → Tot (fun v _ => v = .ns) (B_Begins I R as (S [] 0))) ∧ (n ≠ 0 → Tot (IsRow Fla T n k cs) (B_Begins I R as (S [] 0))) := beg_c I isOk hl B_Begins (fun _ _ _ _ => rfl) as T n k cs h
theorem Ends_c {R : Rec} (hl : ∀ args s, R.f (I.f 15) args s = rowOv (leadsF I isOk) R args s) (as : List AV) (T n k : Nat) (cs : List AV) (h : begF I isOk false as = some (T, n, k, cs)) :
    (n = 0 → Tot (fun v _ => v = .ns) (B_Ends I R as (S [] 0))) ∧ (n ≠ 0 → Tot (IsRow Fla T n k cs) (B_Ends I R as (S [] 0))) := beg_c I isOk hl B_Ends (fun _ _ _ _ => rfl) as T n k cs h
def whyV : List RuleV → List Int → Nat → Int × Bool
  | [], _, _ => (-1, true)
  | a :: rs, l, i => cond (decide (0 < (leadsV a.l l i true).length) && decide (0 < (leadsV a.r l i false).length)) (a.n, a.br) (whyV rs l i)
def rulesOk (rs : List RuleV) : Bool := rs.all fun a => isOk (encSide.enc a.l) && (sideOk a.l && (isOk (encSide.enc a.r) && sideOk a.r))
def whyF : List AV → Option AV
  | [.agg [rv, sk], t, .i .i64 z] => match encRule.decS rv, encR32.decS t with
    | some rs, some l => if rulesOk isOk rs = true ∧ rs.length < 1000 ∧ l.length < 20000 ∧ 0 ≤ z ∧ z ≤ l.length then some (.tup [.i .i64 (whyV rs l z.toNat).1, .b (whyV rs l z.toNat).2]) else none
    | _, _ => none
  | _ => none
theorem why_c {R : Rec} (hb : ∀ args s, R.f (I.f 16) args s = rowOv (begF I isOk true) R args s) (he : ∀ args s, R.f (I.f 17) args s = rowOv (begF I isOk false) R args s) (as : List AV) (v : AV) (h : whyF isOk as = some v) :
    Tot (fun v0 s0 => ∃ v', Inl Fla s0.st.1 v0 v' ∧ v' = v) (B_why I R as (S [] 0)) := by
  unfold whyF at h
  split at h
  case h_2 => cases h
  rename_i rv sk t z
  split at h
  case h_2 => cases h
  rename_i rs l hr ht
  split at h
  case isFalse => cases h
  rename_i hc
  obtain ⟨hok, hrl, hl, hz0, hz1⟩ := hc
  cases h
  obtain ⟨i, rfl⟩ : ∃ m : Nat, z = m := ⟨z.toNat, by omega⟩
  simp only [Int.toNat_natCast]
  have hi : i ≤ l.length := by omega
  -- a call of Begins, Ends
  have callE : ∀ (f : Nat) (back : Bool), (∀ args s, R.f (I.f f) args s = rowOv (begF I isOk back) R args s) → ∀ (e : Side), isOk (encSide.enc e) = true → sideOk e = true → ∀ (σ : List (Option Blk)) (nx : Nat), σ.length ≤ 999999999 →
      ∃ v g nx', R.f (I.f f) [.agg (encSide.enc e), t, .i .i64 (i : Nat)] (S σ nx) = some (.ret v (S (σ ++ g) nx')) ∧ g.length ≤ 1 ∧ ∀ k, pLen false v k = k (.i .i64 ((leadsV e l i back).length : Nat)) := by
    intro f back hf e h1 h2 σ nx hσ
    have hF : begF I isOk back [.agg (encSide.enc e), t, .i .i64 (i : Nat)] = some (I.t 10, (leadsV e l i back).length, 1, ((leadsV e l i back).map fun (n : Nat) => (n : Int)).map (.i .i64)) := by
      simp only [begF, leadsF, encSide.ok, ht, Int.toNat_natCast]
      rw [if_pos ⟨h1, h2, hl, by omega, by omega⟩]
    have hcl : CloL [.agg (encSide.enc e), t, .i .i64 (i : Nat)] := by simp only [CloL, Clo, and_true]; exact ⟨encSide.clo e, encR32.clo_of ht⟩
    by_cases hn : (leadsV e l i back).length = 0
    · rw [hf]
      rw [hn] at hF ⊢
      refine ⟨.ns, [], nx, ?_, by simp, fun k => pLen_ns k⟩
      rw [rowOv_0 (mapO_clo hcl) hF]; simp
    · rw [hf]
      exact ⟨_, _, nx + 1, rowOv_S (mapO_clo hcl) hF hn hσ, by simp, fun k => pLen_gr _ _ _ _ _ k⟩
  have key : ∀ (m : List RuleV) (j fuel : Nat) (σ : List (Option Blk)) (nx : Nat), m = rs.drop j → j + m.length = rs.length → m.length < fuel → σ.length ≤ 3 * j + 1 →
      ∃ s', lp [13] fuel (B_whyl4 I R (.i .i64 (rs.length : Nat)) rv t (.i .i64 (i : Nat)) (B_whyj1 I R)) (.i .i64 (j : Nat)) [] (S σ nx) = some (.ret (.tup [.i .i64 (whyV m l i).1, .b (whyV m l i).2]) s') := by
    intro m
    induction m with
    | nil =>
      intro j fuel σ nx he hj hf hσ
      cases fuel with
      | zero => omega
      | succ f =>
        simp only [List.length_nil] at hj
        rw [lp_s]
        have hd : decide ((j : Int) < (rs.length : Int)) = false := by simp; omega
        refine ⟨S σ nx, ?_⟩
        simp only [B_whyl4, B_whyj1, jn_d, eCond_b, eLeave_nil, bLss_i, cond_false, hd, whyV]
    | cons a m ih =>
      intro j fuel σ nx he0 hj hf hσ
      cases fuel with
      | zero => simp at hf
      | succ f =>
        simp only [List.length_cons] at hj hf
        have hlt : j < rs.length := by omega
        have hx : rs[j]? = some a := by
          have := congrArg List.head? he0
          rw [List.head?_drop] at this
          exact this.symm
        have hm : m = rs.drop (j + 1) := by
          have := congrArg List.tail he0
          rw [List.tail_drop] at this
          exact this
        have hmem : a ∈ rs := List.mem_of_getElem? hx
        have hoka := List.all_eq_true.1 hok a hmem
        simp only [Bool.and_eq_true] at hoka
        obtain ⟨ok1, ok2, ok3, ok4⟩ := hoka
        have ih' := fun σ nx h => ih (j + 1) f σ nx hm (by omega) (by omega) h
        rw [lp_s]
        generalize lp [13] f _ = K at ih' ⊢
        have hd : decide ((j : Int) < (rs.length : Int)) = true := by simp; omega
        have hw : IntKind.i64.wrap ((j : Nat) + 1 : Int) = ((j + 1 : Nat) : Int) := by rw [wrap64 (by omega) (by omega)]; omega
        let σ1 : List (Option Blk) := σ ++ [some (.cells nx false (I.t 7) 0 (encRule.enc a))]
        have g1 : ∀ g, (σ1 ++ g)[σ.length]? = some (some (.cells nx false (I.t 7) 0 (encRule.enc a))) := fun g => by
          show ((σ ++ _) ++ g)[σ.length]? = _
          rw [List.append_assoc, List.getElem?_append_right (Nat.le_refl _)]; simp
        have g0 : σ1[σ.length]? = some (some (.cells nx false (I.t 7) 0 (encRule.enc a))) := by simp [σ1]
        have hl1 : σ1.length = σ.length + 1 := by simp [σ1]
        obtain ⟨v1, ga, nx1, c1, hg1, p1⟩ := callE 16 true hb a.l ok1 ok2 σ1 (nx + 1) (by omega)
        obtain ⟨v2, gb, nx2, c2, hg2, p2⟩ := callE 17 false he a.r ok3 ok4 (σ1 ++ ga) nx1 (by simp; omega)
        simp only [B_whyl4, B_whyj3, B_whyj2, jn_d, jv_d, eCond_b, eLeave_nil, bAdd_i, bLss_i, cond_true, hd, encRule.iadr (kk := 12) hr rfl rfl hlt, encRule.load_t (kk := 12) rfl hx]
        rw [pRow_S (by omega)]
        simp only [List.length_nil, List.length_cons, Nat.zero_add, Nat.reduceAdd]
        rw [pStore_S (n := 12) (kk := 12) (r := σ.length) (st' := nx) (T := I.t 7) (old := [.i .i64 0, .b false, .i .i64 0, .i .i64 0, .ns, .s [], .ns, .i .i64 0, .i .i64 0, .ns, .s [], .ns]) (by simp) rfl (AV.cells_agg _) (encRule_len a) (by decide) (by simp) (by simp; omega)]
        have hset : (σ ++ [some (Blk.cells nx false (I.t 7) 0 [.i .i64 0, .b false, .i .i64 0, .i .i64 0, .ns, .s [], .ns, .i .i64 0, .i .i64 0, .ns, .s [], .ns])]).set σ.length (some (.cells nx false (I.t 7) 0 (encRule.enc a))) = σ1 := by simp [σ1]
        simp only [List.nil_append, List.append_nil, List.drop_succ_cons, List.drop_nil, List.take_zero, Nat.zero_add, Nat.add_zero, Nat.zero_mul, encRule_len, hset]
        rw [pFadr_p g0 rfl, pLoad_St g0 rfl (by decide) (by rw [encRule_len]; decide)]
        simp only [Nat.zero_add, Nat.zero_mul]
        rw [encRule_l a, c1]
        have hgt : ∀ n : Nat, decide ((0 : Int) < (n : Int)) = decide (0 < n) := fun n => by simp
        simp only [callK_ret, eCond_b, eGuard_b, pPick_b, bGtr_i, cond_true, cond_false, p1, hgt, whyV]
        cases hA : decide (0 < (leadsV a.l l i true).length) with
        | false =>
          obtain ⟨s', hs'⟩ := ih' (σ1 ++ ga) nx1 (by simp; omega)
          refine ⟨s', ?_⟩
          simp only [cond_false, Bool.cond_self, Bool.false_and, hw]
          exact hs'
        | true =>
          simp only [cond_true, Bool.true_and]
          rw [pFadr_p (g1 ga) rfl]
          simp only [Nat.zero_add]
          rw [pLoad_St (g1 ga) rfl (by decide) (by rw [encRule_len]; decide)]
          simp only [Nat.zero_add, Nat.zero_mul]
          rw [encRule_r a, c2]
          simp only [callK_ret, eCond_b, bGtr_i, List.append_assoc, p2, hgt]
          cases hB : decide (0 < (leadsV a.r l i false).length) with
          | false =>
            obtain ⟨s', hs'⟩ := ih' (σ1 ++ ga ++ gb) nx2 (by simp; omega)
            refine ⟨s', ?_⟩
            simp only [cond_false, List.append_assoc, hw] at hs' ⊢
            exact hs'
          | true =>
            refine ⟨S (σ1 ++ ga ++ gb) nx2, ?_⟩
            have g2 : (σ1 ++ ga ++ gb)[σ.length]? = some (some (.cells nx false (I.t 7) 0 (encRule.enc a))) := by rw [List.append_assoc]; exact g1 _
            simp only [cond_true, List.append_assoc]
            simp only [List.append_assoc] at g2 ⊢
            rw [pFadr_p g2 rfl, pLoad_Sf g2 rfl (by decide) (by rw [encRule_len]; decide), show (encRule.enc a)[0 * 12 + (0 + 0)]? = some (.i .i64 a.n) from rfl, kont_v, pFadr_p g2 rfl,
              pLoad_Sf g2 rfl (by decide) (by rw [encRule_len]; decide), show (encRule.enc a)[0 * 12 + (0 + 1)]? = some (.b a.br) from rfl, kont_v]
  have hrv : rv.cells = some [rv] := encRule.cells_of hr
  obtain ⟨s', hs'⟩ := key rs 0 30000 [some (.cells 0 false (I.t 8) 0 [rv, sk])] 1 (by simp) (by simp) (by omega) (by simp)
  have : B_why I R [.agg [rv, sk], t, .i .i64 (i : Nat)] (S [] 0) = some (.ret (.tup [.i .i64 (whyV rs l i).1, .b (whyV rs l i).2]) s') := by
    unfold B_why
    rw [args3, pBox_S (AV.cells_agg _) (by simp)]
    simp only [jn_d, List.length_nil, List.length_cons, List.nil_append, Nat.zero_add, Nat.reduceAdd]
    rw [pFadr_p (r := 0) (st' := 0) (cs := [rv, sk]) (T := I.t 8) (fz := 0) rfl rfl, pLoad_Sf (r := 0) (st' := 0) (cs := [rv, sk]) (T := I.t 8) (fz := 0) rfl rfl (by decide) (by simp)]
    simp only [List.getElem?_cons_zero, Nat.add_zero, Nat.zero_mul, kont_v, encRule.pLen_v hr]
    exact hs'
  rw [this]
  exact Tot.ret ⟨_, .clo _ (by simp only [Fla, FlaL, and_self]), rfl⟩
end
end Hb
end

section
set_option linter.unusedVariables false
set_option linter.unusedSimpArgs false
set_option linter.constructorNameAsVariable false
set_option autoImplicit false
set_option linter.unusedVariables false
set_option linter.unusedSimpArgs false
set_option linter.constructorNameAsVariable false
namespace Hb
open Go
section
variable (I : Ids) (isOk : List AV → Bool)
def skipF : List AV → Option AV
  | [.agg [rv, sk], t, .i .i64 z] => match encRule.decS rv, encS.decS sk, encR32.decS t with
    | some _, some [], some l => if 0 ≤ z ∧ z ≤ l.length then some (.b false) else none
    | _, _, _ => none
  | _ => none
theorem skip_c {R R1 R2 : Rec} (h1 : ∀ args s, R.f (I.f 18) args s = B_CFS I R1 args s) (h2 : ∀ args s, R1.f (I.f 28) args s = B_IFS I R2 args s) (as : List AV) (v : AV) (h : skipF as = some v) :
    Tot (fun v0 s0 => ∃ v', Inl Fla s0.st.1 v0 v' ∧ v' = v) (B_Skipped I R as (S [] 0)) := by
  unfold skipF at h
  split at h
  case h_2 => cases h
  rename_i rv sk t z
  split at h
  case h_2 => cases h
  rename_i rs l hr hk ht
  split at h
  case isFalse => cases h
  rename_i hz
  cases h
  have hd1 : decide (z < 0) = false := by simp; omega
  have hd2 : decide ((l.length : Int) < z) = false := by simp; omega
  have : B_Skipped I R [.agg [rv, sk], t, .i .i64 z] (S [] 0) = some (.ret (.b false) (S [some (.cells 0 false (I.t 8) 0 [rv, sk]), some (.cells 1 false (I.t 9) 0 [t]), some (.cells 2 false (I.t 10) 0 [.i .i64 z])] 3)) := by
    unfold B_Skipped
    rw [args3, pBox_S (AV.cells_agg _) (by simp)]
    simp only [jn_d, jv_d, List.length_nil, List.length_cons, List.nil_append, Nat.zero_add, Nat.reduceAdd]
    rw [pBox_S (encR32.cells_of ht) (by simp)]
    simp only [List.length_nil, List.length_cons, List.nil_append, List.cons_append, Nat.zero_add, Nat.reduceAdd]
    rw [pBox_S (AV.cells_i _ _) (by simp)]
    simp only [List.length_nil, List.length_cons, List.nil_append, List.cons_append, Nat.zero_add, Nat.reduceAdd]
    have g0 : ([some (.cells 0 false (I.t 8) 0 [rv, sk]), some (.cells 1 false (I.t 9) 0 [t]), some (.cells 2 false (I.t 10) 0 [.i .i64 z])] : List (Option Blk))[0]? = some (some (.cells 0 false (I.t 8) 0 [rv, sk])) := rfl
    have g1 : ([some (.cells 0 false (I.t 8) 0 [rv, sk]), some (.cells 1 false (I.t 9) 0 [t]), some (.cells 2 false (I.t 10) 0 [.i .i64 z])] : List (Option Blk))[1]? = some (some (.cells 1 false (I.t 9) 0 [t])) := rfl
    have g2 : ([some (.cells 0 false (I.t 8) 0 [rv, sk]), some (.cells 1 false (I.t 9) 0 [t]), some (.cells 2 false (I.t 10) 0 [.i .i64 z])] : List (Option Blk))[2]? = some (some (.cells 2 false (I.t 10) 0 [.i .i64 z])) := rfl
    simp (disch := simp) only [args2, jn_d, eCond_b, eGuard_b, pPick_b, eLeave_nil, bLss_i, bGtr_i, cond_true, cond_false, Bool.not_false, List.length_nil, List.getElem?_cons_zero, List.getElem?_cons_succ, Nat.zero_add, Nat.add_zero, Nat.zero_mul, Nat.mul_one, kont_v, pLoad_Sf g2 rfl, pLoad_Sf g1 rfl, pLoad_Sf g0 rfl, hd1, hd2, encR32.pLen_v ht, B_Skippedj1, pFadr_p g0 rfl, h1, B_CFS, h2, B_IFS, encS.pLen_v hk]
    show callK (callK (lp [8] 30000 (B_IFSl4 I R2 (.i .i64 ((([] : List (List Nat)).length : Nat) : Int)) sk (.fn (.func (I.f 19)) [] [.p 2 2 1 0 0, .p 1 1 1 0 0]) (B_IFSj1 I R2)) (.i .i64 0) [] _) _) _ = _
    rw [show (30000 : Nat) = 29999 + 1 from rfl, lp_s]
    simp [B_IFSl4, B_IFSj1, jn_d, callK_ret, eCond_b, eLeave_nil, bLss_i, bGeq_i, cond_false, List.length_nil]
  rw [this]
  exact Tot.ret ⟨_, .clo _ (by simp only [Fla]), rfl⟩
def midV (rs : List RuleV) (l : List Int) : Nat → Nat → List Nat
  | 0, _ => []
  | n + 1, i => cond (whyV rs l i).2 (i :: midV rs l n (i + 1)) (midV rs l n (i + 1))
def cutsV (rs : List RuleV) (l : List Int) : List Nat := if l = [] then [] else 0 :: (midV rs l (l.length - 1) 1 ++ [l.length])
theorem midV_len (rs : List RuleV) (l : List Int) : ∀ (n i : Nat), (midV rs l n i).length ≤ n
  | 0, _ => Nat.le_refl _
  | n + 1, i => by
    have := midV_len rs l n (i + 1)
    unfold midV
    cases (whyV rs l i).2 <;> simp <;> omega
theorem cuts1_iter {R : Rec} (hw : ∀ args s, R.f (I.f 23) args s = flatOv (whyF isOk) R args s) (hs : ∀ args s, R.f (I.f 24) args s = flatOv skipF R args s) {rv sk t : AV} {rs : List RuleV} {l : List Int} {r st : Nat}
    (hr : encRule.decS rv = some rs) (hk : encS.decS sk = some []) (ht : encR32.decS t = some l) (hok : rulesOk isOk rs = true) (hrl : rs.length < 1000) (hl : l.length < 20000) (Inv : List Int → ES → Prop)
    (hround : ∀ a s z, Inv a s → a.length < 1000000 → ∃ s', Inv (a ++ [z]) s' ∧ ∀ k, eRound R.b r st [.i .i64 z] s k = k (.b true) s') (s : ES) (h0 : Inv [] s) :
    ∃ s', Inv ((cutsV rs l).map fun (n : Nat) => (n : Int)) s' ∧ B_cuts1 I R [.fy r st, .pe [t] 1 0 0, .pe [rv, sk] 2 0 0] s = some (.ret (.tup []) s') := by
  have hct : Clo t := encR32.clo_of ht
  have hcr : Clo rv := encRule.clo_of hr
  have hck : Clo sk := encS.clo_of hk
  have hl1 : ∀ (s : ES) k, pLoad s false 1 (.pe [t] 1 0 0) k = k t := fun s k => by rw [pLoad_pe, loadK_fm (by decide) (by simp)]; rfl
  have hl2 : ∀ (s : ES) k, pLoad s true 2 (.pe [rv, sk] 2 0 0) k = k (.agg [rv, sk]) := fun s k => by rw [pLoad_pe, loadK_t (by decide) (by simp)]; rfl
  have cw : ∀ (s : ES) (i : Nat), i ≤ l.length → R.f (I.f 23) [.agg [rv, sk], t, .i .i64 (i : Nat)] s = some (.ret (.tup [.i .i64 (whyV rs l i).1, .b (whyV rs l i).2]) s) := fun s i hi => by
    rw [hw]
    refine flatOv_c (by simp only [CloL, Clo, and_true]; exact ⟨⟨hcr, hck⟩, hct⟩) ?_
    simp only [whyF, hr, ht, Int.toNat_natCast]
    rw [if_pos ⟨hok, hrl, hl, by omega, by omega⟩]
  have cs : ∀ (s : ES) (i : Nat), i ≤ l.length → R.f (I.f 24) [.agg [rv, sk], t, .i .i64 (i : Nat)] s = some (.ret (.b false) s) := fun s i hi => by
    rw [hs]
    refine flatOv_c (by simp only [CloL, Clo, and_true]; exact ⟨⟨hcr, hck⟩, hct⟩) ?_
    simp only [skipF, hr, hk, ht]
    rw [if_pos ⟨by omega, by omega⟩]
  have key : ∀ (n i fuel : Nat) (a : List Int) (s : ES), n + i = l.length → n < fuel → Inv a s → a.length ≤ i → 
      ∃ s', Inv (a ++ ((midV rs l n i ++ [l.length]).map fun (n : Nat) => (n : Int))) s' ∧ lp [4] fuel (B_cuts1l4 I R (.pe [rv, sk] 2 0 0) (.pe [t] 1 0 0) (.fy r st) (B_cuts1j1 I R (.pe [t] 1 0 0) (.fy r st))) (.i .i64 (i : Nat)) [] s = some (.ret (.tup []) s') := by
    intro n
    induction n with
    | zero =>
      intro i fuel a s hi hf ha hal
      cases fuel with
      | zero => omega
      | succ f =>
        obtain ⟨s', h1, h2⟩ := hround a s (l.length : Nat) ha (by omega)
        refine ⟨s', by simpa [midV] using h1, ?_⟩
        rw [lp_s]
        have hd : decide ((i : Int) < (l.length : Int)) = false := by simp; omega
        simp only [B_cuts1l4, B_cuts1j1, jn_d, eCond_b, eLeave_nil, bLss_i, cond_false, hl1, encR32.pLen_v ht, hd, eCallV_fy, h2]
    | succ n ih =>
      intro i fuel a s hi hf ha hal
      cases fuel with
      | zero => omega
      | succ f =>
        have ih' := fun a s ha hal => ih (i + 1) f a s (by omega) (by omega) ha hal
        rw [lp_s]
        generalize lp [4] f _ = K at ih' ⊢
        have hd : decide ((i : Int) < (l.length : Int)) = true := by simp; omega
        have hwr : IntKind.i64.wrap ((i : Nat) + 1 : Int) = ((i + 1 : Nat) : Int) := by rw [wrap64 (by omega) (by omega)]; omega
        simp only [B_cuts1l4, B_cuts1j3, B_cuts1j2, jn_d, jv_d, callK_ret, eCond_b, eLeave_nil, bAdd_i, bLss_i, cond_true, hl1, hl2, encR32.pLen_v ht, hd, cw s i (by omega)]
        rw [pExt_t rfl, pExt_t rfl]
        unfold midV
        cases hy : (whyV rs l i).2 with
        | false =>
          obtain ⟨s', h1, h2⟩ := ih' a s ha (by omega)
          refine ⟨s', by simpa using h1, ?_⟩
          simp only [eCond_b, eGuard_b, pPick_b, cond_true, cond_false, Bool.not_false, Bool.cond_self, hwr]
          exact h2
        | true =>
          obtain ⟨s1, h1, h2⟩ := hround a s (i : Nat) ha (by omega)
          obtain ⟨s', h3, h4⟩ := ih' (a ++ [(i : Int)]) s1 h1 (by simp; omega)
          refine ⟨s', by simpa using h3, ?_⟩
          simp only [callK_ret, eCond_b, eGuard_b, pPick_b, pUn_not, cond_true, cond_false, Bool.not_true, Bool.not_false, Bool.cond_self, cs s i (by omega), eCallV_fy, h2, hwr]
          exact h4
  unfold B_cuts1
  simp only [args3, jn_d, jv_d, eCond_b, eGuard_b, pPick_b, bEql_i, cond_true, cond_false, hl1, encR32.pLen_v ht]
  unfold cutsV
  by_cases he : l = []
  · subst he
    refine ⟨s, by simpa using h0, ?_⟩
    simp [cond_true, cond_false, Bool.not_true, Bool.cond_self, List.length_nil]
  · have hpos : 0 < l.length := List.length_pos_iff.2 he
    have hd : decide (((l.length : Nat) : Int) = 0) = false := by simp; exact he
    obtain ⟨s1, h1, h2⟩ := hround [] s 0 h0 (by simp)
    obtain ⟨s', h3, h4⟩ := key (l.length - 1) 1 30000 [0] s1 (by omega) (by omega) h1 (by simp)
    refine ⟨s', by rw [if_neg he]; simpa using h3, ?_⟩
    simp only [hd, jn_d, eCond_b, pUn_not, cond_true, cond_false, Bool.not_true, Bool.not_false, eCallV_fy, h2, B_cuts1j5]
    exact h4
def cutsG : List AV → Option (List Int)
  | [.fn (.func k) [] [.pe [t] 1 0 0, .pe [rv, sk] 2 0 0]] => if k = I.f 22 then (match encRule.decS rv, encS.decS sk, encR32.decS t with
    | some rs, some [], some l => if rulesOk isOk rs = true ∧ rs.length < 1000 ∧ l.length < 20000 then some ((cutsV rs l).map fun (n : Nat) => (n : Int)) else none
    | _, _, _ => none) else none
  | _ => none
theorem cutsG_ok {R1 R2 : Rec} (h2 : ∀ args s, R1.h (I.f 22) args s = B_cuts1 I R2 args s) (hw : ∀ args s, R2.f (I.f 23) args s = flatOv (whyF isOk) R2 args s) (hs : ∀ args s, R2.f (I.f 24) args s = flatOv skipF R2 args s)
    (as : List AV) (seq : List Int) (h : cutsG I isOk as = some seq) :
    ∃ g caps, as = [.fn (.func g) [] caps] ∧ ∀ (Inv : List Int → ES → Prop), (∀ a s z, Inv a s → a.length < 1000000 → ∃ s', Inv (a ++ [z]) s' ∧ ∀ k, eRound R2.b 2 2 [.i .i64 z] s k = k (.b true) s') → ∀ s, Inv [] s → ∃ s', Inv seq s' ∧ R1.h g (.fy 2 2 :: caps) s = some (.ret (.tup []) s') := by
  unfold cutsG at h
  split at h
  case h_2 => cases h
  rename_i k t rv sk
  split at h
  case isFalse => cases h
  rename_i hk
  split at h
  case h_2 => cases h
  rename_i rs l e1 e2 e3
  split at h
  case isFalse => cases h
  rename_i hc
  cases h
  subst hk
  refine ⟨_, _, rfl, fun Inv hr s h0 => ?_⟩
  obtain ⟨s', q1, q2⟩ := cuts1_iter I isOk (R := R2) (r := 2) (st := 2) hw hs e1 e2 e3 hc.1 hc.2.1 hc.2.2 Inv hr s h0
  exact ⟨s', q1, by rw [h2]; exact q2⟩
end
end Hb
end

section
set_option linter.unusedVariables false
set_option linter.unusedSimpArgs false
set_option linter.constructorNameAsVariable false
set_option autoImplicit false
set_option linter.unusedVariables false
set_option linter.unusedSimpArgs false
set_option linter.constructorNameAsVariable false
namespace Hb
open Go
section
variable (I : Ids) (isOk : List AV → Bool) (isBk : List AV → Bool)
def CutsF : List AV → Option (Nat × Nat × Nat × List AV)
  | [.agg [rv, sk], t] => match encRule.decS rv, encS.decS sk, encR32.decS t with
    | some rs, some [], some l => if isBk [rv, sk] = true ∧ rulesOk isOk rs = true ∧ rs.length < 1000 ∧ l.length < 20000 then some (I.t 10, (cutsV rs l).length, 1, ((cutsV rs l).map fun (n : Nat) => (n : Int)).map (.i .i64)) else none
    | _, _, _ => none
  | _ => none
theorem Cuts_c {R : Rec} (hbk : ∀ b, isBk b = true → ∀ s, R.f (I.f 26) [.agg b] s = some (.ret (.b true) s)) (hcuts : ∀ args s, R.f (I.f 25) args s = B_cuts I R args s) {G : List AV → Option (List Int)} (hGc : ∀ as seq, cutsG I isOk as = some seq → G as = some seq)
    (hcoll : ∀ args s, R.f (I.f 13) args s = rowOv (collF I G) R args s) (as : List AV) (T n k : Nat) (cs : List AV) (h : CutsF I isOk isBk as = some (T, n, k, cs)) :
    (n = 0 → Tot (fun v _ => v = .ns) (B_Cuts I R as (S [] 0))) ∧ (n ≠ 0 → Tot (IsRow Fla T n k cs) (B_Cuts I R as (S [] 0))) := by
  unfold CutsF at h
  split at h
  case h_2 => cases h
  rename_i rv sk t
  split at h
  case h_2 => cases h
  rename_i rs l hr hk ht
  split at h
  case isFalse => cases h
  rename_i hc
  obtain ⟨hbk1, hok, hrl, hl⟩ := hc
  cases h
  have hct : Clo t := encR32.clo_of ht
  have hcr : Clo rv := encRule.clo_of hr
  have hck : Clo sk := encS.clo_of hk
  let σ : List (Option Blk) := [some (.cells 0 false (I.t 8) 0 [rv, sk]), some (.cells 1 false (I.t 8) 0 [rv, sk]), some (.cells 2 false (I.t 9) 0 [t])]
  have hin : mapO (inlN 4 (S σ 3)) [.fn (.func (I.f 22)) [] [.p 2 2 1 0 0, .p 1 1 2 0 0]] = some [.fn (.func (I.f 22)) [] [.pe [t] 1 0 0, .pe [rv, sk] 2 0 0]] := by
    refine mapO_c (inlN_fn rfl rfl (mapO_c (inlN_p (cs := [t]) (st' := 2) (T := I.t 9) (fz := 0) rfl rfl (mapO_clo (by simp only [CloL, and_true]; exact hct))) (mapO_c (inlN_p (cs := [rv, sk]) (st' := 1) (T := I.t 8) (fz := 0) rfl rfl (mapO_clo (by simp only [CloL, and_true]; exact ⟨hcr, hck⟩))) rfl))) rfl
  have hlen : (cutsV rs l).length ≤ l.length + 1 := by
    unfold cutsV
    split
    · simp
    · have := midV_len rs l (l.length - 1) 1
      have hpos : 0 < l.length := List.length_pos_iff.2 (by assumption)
      simp; omega
  have hcF : collF I G [.fn (.func (I.f 22)) [] [.pe [t] 1 0 0, .pe [rv, sk] 2 0 0]] = some (I.t 10, (cutsV rs l).length, 1, ((cutsV rs l).map fun (n : Nat) => (n : Int)).map (.i .i64)) := by
    unfold collF
    have := hGc [.fn (.func (I.f 22)) [] [.pe [t] 1 0 0, .pe [rv, sk] 2 0 0]] _ (by simp only [cutsG, if_true, hr, hk, ht]; rw [if_pos ⟨hok, hrl, hl⟩])
    rw [this]
    simp only [List.length_map]
    rw [if_pos (by omega)]
  have main : ∀ Φ : AV → ES → Prop, Tot Φ (R.f (I.f 13) [.fn (.func (I.f 22)) [] [.p 2 2 1 0 0, .p 1 1 2 0 0]] (S σ 3)) → Tot Φ (B_Cuts I R [.agg [rv, sk], t] (S [] 0)) := by
    intro Φ hΦ
    unfold B_Cuts
    rw [args2, pBox_S (AV.cells_agg _) (by simp)]
    simp only [jn_d, List.length_nil, List.length_cons, List.nil_append, Nat.zero_add, Nat.reduceAdd]
    rw [pLoad_St (r := 0) (st' := 0) (cs := [rv, sk]) (T := I.t 8) (fz := 0) rfl rfl (by decide) (by simp)]
    simp only [callK_ret, eCond_b, pUn_not, eLeave_nil, cond_false, Bool.not_true, List.drop_zero, List.take_succ_cons, List.take_nil, Nat.add_zero, Nat.zero_mul, hbk _ hbk1, B_Cutsj1]
    rw [pLoad_St (r := 0) (st' := 0) (cs := [rv, sk]) (T := I.t 8) (fz := 0) rfl rfl (by decide) (by simp)]
    simp only [List.drop_zero, List.take_succ_cons, List.take_nil, Nat.add_zero, Nat.zero_mul, hcuts]
    unfold B_cuts
    rw [args2, pBox_S (AV.cells_agg _) (by simp)]
    simp only [List.length_nil, List.length_cons, List.nil_append, List.cons_append, Nat.zero_add, Nat.reduceAdd]
    rw [pBox_S (encR32.cells_of ht) (by simp)]
    simp only [callK_ret, List.length_nil, List.length_cons, List.nil_append, List.cons_append, Nat.zero_add, Nat.reduceAdd]
    refine Tot.call hΦ fun v s hv => ?_
    exact Tot.ret hv
  have hcr2 := hcoll [.fn (.func (I.f 22)) [] [.p 2 2 1 0 0, .p 1 1 2 0 0]] (S σ 3)
  refine ⟨fun hn => main _ ?_, fun hn => main _ ?_⟩
  · rw [hcr2, rowOv_0 hin (by rw [hcF, hn])]
    exact Tot.ret rfl
  · rw [hcr2, rowOv_S hin hcF hn (by simp [σ])]
    refine Tot.ret ⟨_, _, 3, _, rfl, ?_, InlL.same ?_⟩
    · rw [S_st]
      exact Store.at_of (by simp) rfl
    · rw [FlaL_iff]
      intro y hy
      obtain ⟨b, _, rfl⟩ := List.mem_map.1 hy
      simp only [Fla]
end
theorem trues_none : ∀ (n i : Nat), trues (List.replicate n false) i = []
  | 0, _ => rfl
  | n + 1, i => by rw [List.replicate_succ]; exact trues_none n (i + 1)
theorem trues_set : ∀ (n j i : Nat), j < n → trues ((List.replicate n false).set j true) i = [i + j]
  | 0, j, i, h => absurd h (by simp)
  | n + 1, 0, i, h => by
    rw [List.replicate_succ, List.set_cons_zero]
    show i :: trues (List.replicate n false) (i + 1) = _
    rw [trues_none]; rfl
  | n + 1, j + 1, i, h => by
    rw [List.replicate_succ, List.set_cons_succ]
    show trues ((List.replicate n false).set j true) (i + 1) = _
    rw [trues_set n j (i + 1) (by omega)]
    congr 1; omega
theorem trues_ind {n i : Nat} (h : i ≤ n) : trues (indV n i) 0 = [i] := by
  unfold indV
  rw [trues_set _ _ _ (by omega)]; simp
def fitsV (e : Side) (l : List Int) (i : Nat) (back : Bool) : Bool := match e with
  | .none => true
  | .set s => cond back (decide (0 < i) && hasR s ((l[i - 1]?).getD 0)) (decide (i < l.length) && hasR s ((l[i]?).getD 0))
theorem leadsV_eq (e : Side) (l : List Int) (i : Nat) (back : Bool) (hi : i ≤ l.length) : ∃ x, leadsV e l i back = cond (fitsV e l i back) [x] [] := by
  cases e with
  | none => exact ⟨i, by simp [leadsV, fitsV, trues_ind hi]⟩
  | set s =>
    have hset : ∀ j, j ≤ l.length → trues ((List.replicate (l.length + 1) false).set j true) 0 = [j] := fun j hj => by rw [trues_set _ _ _ (by omega)]; simp
    have hnone : trues (List.replicate (l.length + 1) false) 0 = [] := trues_none _ _
    have h1 : leadsV (.set s) l i back = trues (markV l back s (List.replicate (l.length + 1) false) i) 0 := by simp only [leadsV, oneV, trues_ind hi, List.foldl_cons, List.foldl_nil]
    rw [h1]
    cases back with
    | true =>
      by_cases h0 : i = 0
      · subst h0; exact ⟨0, by simp [markV, stepV, fitsV, hnone]⟩
      · have e1 : stepV l true i = ((l[i - 1]?).getD 0, (i : Int) - 1, true) := by simp [stepV, h0]
        have e2 : fitsV (.set s) l i true = hasR s ((l[i - 1]?).getD 0) := by simp [fitsV]; omega
        refine ⟨i - 1, ?_⟩
        rw [e2]
        unfold markV
        rw [e1]
        simp only [Bool.true_and]
        cases hasR s ((l[i - 1]?).getD 0) with
        | false => simp only [cond_false, hnone]
        | true => simp only [cond_true]; rw [show ((i : Int) - 1).toNat = i - 1 from by omega, hset _ (by omega)]
    | false =>
      by_cases h0 : i = l.length
      · subst h0; exact ⟨0, by simp [markV, stepV, fitsV, hnone]⟩
      · have e1 : stepV l false i = ((l[i]?).getD 0, (i : Int) + 1, true) := by simp [stepV, h0]
        have e2 : fitsV (.set s) l i false = hasR s ((l[i]?).getD 0) := by simp [fitsV]; omega
        refine ⟨i + 1, ?_⟩
        rw [e2]
        unfold markV
        rw [e1]
        simp only [Bool.true_and]
        cases hasR s ((l[i]?).getD 0) with
        | false => simp only [cond_false, hnone]
        | true => simp only [cond_true]; rw [show ((i : Int) + 1).toNat = i + 1 from by omega, hset _ (by omega)]
theorem leadsV_fits (e : Side) (l : List Int) (i : Nat) (back : Bool) (hi : i ≤ l.length) : decide (0 < (leadsV e l i back).length) = fitsV e l i back := by
  obtain ⟨x, hx⟩ := leadsV_eq e l i back hi
  rw [hx]
  cases fitsV e l i back <;> simp
def cutV (rs : List RuleV) (l : List Int) (i : Nat) : Bool := match rs.find? fun a => fitsV a.l l i true && fitsV a.r l i false with
  | some a => a.br
  | none => true
theorem whyV_cut {l : List Int} {i : Nat} (hi : i ≤ l.length) : ∀ (rs : List RuleV), (whyV rs l i).2 = cutV rs l i
  | [] => rfl
  | a :: rs => by
    have ih := whyV_cut hi rs
    unfold whyV cutV
    rw [leadsV_fits _ _ _ _ hi, leadsV_fits _ _ _ _ hi, List.find?_cons]
    cases hf : (fitsV a.l l i true && fitsV a.r l i false) with
    | true => simp
    | false => simp only [cond_false]; rw [ih]; rfl
theorem midV_filter {rs : List RuleV} {l : List Int} : ∀ (n i : Nat), i + n ≤ l.length + 1 → midV rs l n i = (List.range' i n).filter (cutV rs l)
  | 0, i, h => rfl
  | n + 1, i, h => by
    unfold midV
    rw [midV_filter n (i + 1) (by omega), whyV_cut (by omega), List.range'_succ, List.filter_cons]
    cases cutV rs l i <;> simp
theorem cutsV_eq {rs : List RuleV} {l : List Int} (h : l ≠ []) : cutsV rs l = 0 :: ((List.range' 1 (l.length - 1)).filter (cutV rs l) ++ [l.length]) := by
  have hpos : 0 < l.length := List.length_pos_iff.2 h
  unfold cutsV
  rw [if_neg h, midV_filter _ _ (by omega)]
end Hb
end

section
set_option linter.unusedVariables false
set_option linter.unusedSimpArgs false
set_option linter.constructorNameAsVariable false
set_option autoImplicit false
set_option linter.unusedVariables false
set_option linter.unusedSimpArgs false
set_option linter.constructorNameAsVariable false
namespace Hb
open Go
theorem pEq_bool (s : ES) (neg p q : Bool) (k : KP) : pEq s .bool neg (.b p) (.b q) k = k (.b (xor neg (p == q))) := by
  cases neg <;> cases p <;> cases q <;> rfl
end Hb
end

section
set_option linter.unusedVariables false
set_option linter.unusedSimpArgs false
set_option linter.constructorNameAsVariable false
set_option autoImplicit false
set_option linter.unusedVariables false
set_option linter.unusedSimpArgs false
set_option linter.constructorNameAsVariable false
namespace Hb
open Go
def RowAt (k : IntKind) (T : Nat) (a : List Int) (v : AV) (l : List (Option Blk)) : Prop :=
  (a = [] ∧ v = .ns) ∨ (a = [] ∧ ∃ r st T', v = .gr r st 0 0 1 ∧ l[r]? = some (some (.cells st true T' 0 []))) ∨ (a ≠ [] ∧ ∃ r st, v = .gr r st 0 a.length 1 ∧ l[r]? = some (some (.cells st false T 0 (a.map (.i k)))))
def Off (v : AV) (r : Nat) : Prop := ∀ st i n k, v ≠ .gr r st i n k
theorem RowAt.keep {k : IntKind} {T : Nat} {a : List Int} {v : AV} {l l' : List (Option Blk)} (h : RowAt k T a v l) (hk : ∀ r, ¬ Off v r → l'[r]? = l[r]?) : RowAt k T a v l' := by
  rcases h with h | ⟨h1, r, st, T', rfl, h2⟩ | ⟨h1, r, st, rfl, h2⟩
  · exact .inl h
  · exact .inr (.inl ⟨h1, r, st, T', rfl, (hk r fun h => h _ _ _ _ rfl).trans h2⟩)
  · exact .inr (.inr ⟨h1, r, st, rfl, (hk r fun h => h _ _ _ _ rfl).trans h2⟩)
theorem RowAt.lt {k : IntKind} {T : Nat} {a : List Int} {v : AV} {l : List (Option Blk)} (h : RowAt k T a v l) : ∀ r, ¬ Off v r → r < l.length := by
  intro r hr
  rcases h with ⟨_, rfl⟩ | ⟨h1, r', st, T', rfl, h2⟩ | ⟨h1, r', st, rfl, h2⟩
  · exact absurd (fun st i n k e => by cases e) hr
  · by_cases e : r' = r
    · subst e; exact (List.getElem?_eq_some_iff.1 h2).1
    · exact absurd (fun st i n k e' => e (by cases e'; rfl)) hr
  · by_cases e : r' = r
    · subst e; exact (List.getElem?_eq_some_iff.1 h2).1
    · exact absurd (fun st i n k e' => e (by cases e'; rfl)) hr
def Grow (v : AV) (l l' : List (Option Blk)) : Prop := l.length ≤ l'.length ∧ l'.length ≤ l.length + 2 ∧ ∀ r, r < l.length → Off v r → l'[r]? = l[r]?
def Same (v v1 : AV) (l : List (Option Blk)) : Prop := ∀ r, r < l.length → Off v r → Off v1 r
theorem fill1 {k : IntKind} {z : Int} {C : List AV → Res} : fillK [.i k 0] [(0, 1, .i k z)] C = C [.i k z] := rfl
theorem Off.gr {r r' st i n k : Nat} (h : Off (.gr r' st i n k) r) : r ≠ r' := fun e => h st i n k (by rw [e])
theorem Off.of {r r' st i n k : Nat} (h : r ≠ r') : Off (.gr r' st i n k) r := fun _ _ _ _ e => h (by cases e; rfl)
theorem Off.ns {r : Nat} : Off .ns r := fun _ _ _ _ e => by cases e
theorem pApp_vS {l : List (Option Blk)} {nx r st st' T T' fz n m : Nat} {cs new : List AV} {k : KV} (h : l[r]? = some (some (.cells st' true T' fz cs))) (hst : st' = st) (hn : n ≤ 1048576) (hm0 : 0 < m) (hm : m ≤ 1048576) (hl : l.length ≤ 999999999) :
    pApp (S l nx) T 1 (.gr r st 0 n 1) m new k = k (.gr r nx 0 m 1) (S (l.set r (some (.cells nx false T 0 new))) (nx + 1)) := by
  show cond (Nat.ble m 1048576) (cond (Nat.beq 1 1) (cond (Nat.ble n 1048576) (sAt (S l nx) r st fun b => (match b with
      | .cells _ true _ _ _ => cond (Nat.beq m 0) (k (.gr r st 0 n 1) (S l nx)) (pPut1 (S l nx) r (fun x => .cells x false T 0 new) fun x s' => k (.gr r x 0 m 1) s')
      | .cells _ false T' fz old => cond (Nat.beq m 0) (k (.gr r st 0 n 1) (S l nx))
          (cond (Nat.beq T' T) (cond (Nat.beq 0 0)
            (cond (Nat.ble (Nat.mul n 1) (lenR old)) (cond (Nat.ble fz (Nat.succ (Nat.mul n 1))) (appK (cnl (Nat.beq (Nat.mul n 1) (lenR old)) old (takeR old (Nat.mul n 1))) new fun all => frcN (Nat.add n m) fun nm =>
              pPut1 (S l nx) r (fun x => .cells x false T fz all) fun x s' => k (.gr r x 0 nm 1) s') none) none)
            (cond (Nat.ble (Nat.add (Nat.mul 0 1) (Nat.mul n 1)) (lenR old)) (cond (Nat.ble fz 1) (appK (takeR (dropR old (Nat.mul 0 1)) (Nat.mul n 1)) new fun all => frcN (Nat.add n m) fun nm =>
              pPut1 (S l nx) r (fun x => .cells x false T 1 all) fun x s' => k (.gr r x 0 nm 1) s') none) none)) none)
      | _ => none)) none) none) none = _
  rw [Nat.ble_eq_true_of_le hm, Nat.ble_eq_true_of_le hn, S_sAt h hst]
  simp only [beqN, decide_true, cond_true]
  rw [decide_eq_false (by omega), cond_false]
  have hr := (List.getElem?_eq_some_iff.1 h).1
  rw [S_put1 hr hl]
theorem row_appG {k : IntKind} {T : Nat} {a : List Int} {v : AV} {l : List (Option Blk)} {nx : Nat} (h : RowAt k T a v l) (ha : a.length < 100000) (hl : l.length < 900000000) (z : Int) :
    ∃ v1 l1 nx1, RowAt k T (a ++ [z]) v1 l1 ∧ Grow v l l1 ∧ Same v v1 l ∧
      ∀ C : AV → ES → Res, (pLit (S l nx) T 1 1 [.i k 0] [(0, 1, .i k z)] fun x s => pAppend s T 1 v x fun y s => C y s) = C v1 (S l1 nx1) := by
  have hlit : ∀ C : AV → ES → Res, (pLit (S l nx) T 1 1 [.i k 0] [(0, 1, .i k z)] fun x s => pAppend s T 1 v x fun y s => C y s) =
      pApp (S (l ++ [some (.cells nx false T 0 [.i k z])]) (nx + 1)) T 1 v 1 [.i k z] C := by
    intro C
    rw [pLit_S (by omega), fill1]
    unfold pAppend
    rw [cellsK_gr (r := l.length) (st' := nx) (T := T) (fz := 0) (cs := [.i k z]) (by simp) rfl (by simp)]
    rfl
  have hmid : ∀ r, r < l.length → (l ++ [some (.cells nx false T 0 [AV.i k z])])[r]? = l[r]? := fun r hr => List.getElem?_append_left hr
  rcases h with ⟨rfl, rfl⟩ | ⟨rfl, r, st, T', rfl, h2⟩ | ⟨hne, r, st, rfl, h2⟩
  · refine ⟨.gr (l.length + 1) (nx + 1) 0 1 1, l ++ [some (Blk.cells nx false T 0 [AV.i k z])] ++ [some (.cells (nx + 1) false T 0 [.i k z])], nx + 1 + 1, .inr (.inr ⟨by simp, _, _, rfl, by simp⟩), ⟨by simp, by simp, fun r hr _ => by rw [List.getElem?_append_left (by simp; omega), hmid r hr]⟩, fun r hr _ => Off.of (by omega), fun C => ?_⟩
    rw [hlit, pApp_nsS (by decide) (by decide) (by simp; omega)]
    simp
  · have hr := (List.getElem?_eq_some_iff.1 h2).1
    refine ⟨.gr r (nx + 1) 0 1 1, (l ++ [some (Blk.cells nx false T 0 [AV.i k z])]).set r (some (.cells (nx + 1) false T 0 [.i k z])), nx + 1 + 1, .inr (.inr ⟨by simp, _, _, rfl, by rw [List.getElem?_set_self (by simp; omega)]; simp⟩), ⟨by simp, by simp, fun q hq ho => by rw [List.getElem?_set_ne (Ne.symm ho.gr), hmid q hq]⟩, fun q hq ho => Off.of ho.gr, fun C => ?_⟩
    rw [hlit, pApp_vS (by rw [hmid r hr]; exact h2) rfl (by decide) (by decide) (by decide) (by simp; omega)]
  · have hr := (List.getElem?_eq_some_iff.1 h2).1
    refine ⟨.gr r (nx + 1) 0 (a.length + 1) 1, (l ++ [some (Blk.cells nx false T 0 [AV.i k z])]).set r (some (.cells (nx + 1) false T 0 (a.map (.i k) ++ [.i k z]))), nx + 1 + 1, .inr (.inr ⟨by simp, r, nx + 1, by simp, by rw [List.getElem?_set_self (by simp; omega)]; simp⟩), ⟨by simp, by simp, fun q hq ho => by rw [List.getElem?_set_ne (Ne.symm ho.gr), hmid q hq]⟩, fun q hq ho => Off.of ho.gr, fun C => ?_⟩
    rw [hlit, pApp_grS (st' := st) (old := a.map (.i k)) (by rw [hmid r hr]; exact h2) rfl (by simp) (by decide) (by decide) (by omega) (by simp; omega)]
theorem RowAt.len {k : IntKind} {T : Nat} {a : List Int} {v : AV} {l : List (Option Blk)} (h : RowAt k T a v l) (K : KP) : pLen false v K = K (.i .i64 (a.length : Nat)) := by
  rcases h with ⟨rfl, rfl⟩ | ⟨rfl, r, st, T', rfl, h2⟩ | ⟨hne, r, st, rfl, h2⟩
  · exact pLen_ns K
  · exact pLen_gr _ _ _ _ _ K
  · exact pLen_gr _ _ _ _ _ K
theorem RowAt.at {k : IntKind} {T : Nat} {a : List Int} {v : AV} {l : List (Option Blk)} (h : RowAt k T a v l) {nx i : Nat} {x : Int} {kd : IntKind} {z : Int} (hx : a[i]? = some x) (hz : z = (i : Nat)) (K : KP) :
    (pIadrS (S l nx) 1 v (.i kd z) fun p => pLoad (S l nx) false 1 p K) = K (.i k x) := by
  have hlt : i < a.length := (List.getElem?_eq_some_iff.1 hx).1
  rcases h with ⟨rfl, rfl⟩ | ⟨rfl, r, st, T', rfl, h2⟩ | ⟨hne, r, st, rfl, h2⟩
  · simp at hx
  · simp at hx
  · rw [pIadrS_gr (m := i) h2 rfl hz hlt, Nat.zero_add, pLoad_Sf h2 rfl (by decide) (by simp; omega)]
    simp only [Nat.mul_one, Nat.add_zero, List.getElem?_map, hx, Option.map_some, kont_v]
end Hb
end

section
set_option linter.unusedVariables false
set_option linter.unusedSimpArgs false
set_option linter.constructorNameAsVariable false
set_option autoImplicit false
set_option linter.unusedVariables false
set_option linter.unusedSimpArgs false
set_option linter.constructorNameAsVariable false
namespace Hb
open Go
theorem cutsV_nil {rs : List RuleV} : cutsV rs [] = [] := by unfold cutsV; simp
end Hb
end

section
set_option linter.unusedVariables false
set_option linter.unusedSimpArgs false
set_option linter.constructorNameAsVariable false
set_option autoImplicit false
set_option linter.unusedVariables false
set_option linter.unusedSimpArgs false
set_option linter.constructorNameAsVariable false
namespace Hb
open Go
theorem avEq_gr (r st i n k : Nat) : avEq (.gr r st i n k) (.gr r st i n k) = true := by
  have : ∀ eq, avEq1 eq (.gr r st i n k) (.gr r st i n k) = true := fun eq => by unfold avEq1; simp
  exact this (Nat.rec (motive := fun _ => AV → AV → Bool) (fun _ _ => false) (fun _ ih x y => avEq1 ih x y) 19)
def RS (rs : List RuleV) (u : List Int) : List Int := (cutsV rs u).map fun (n : Nat) => (n : Int)
end Hb
end

section
set_option linter.unusedVariables false
set_option linter.unusedSimpArgs false
set_option linter.constructorNameAsVariable false
set_option autoImplicit false
set_option linter.unusedVariables false
set_option linter.unusedSimpArgs false
set_option linter.constructorNameAsVariable false
namespace Hb
open Go
end Hb
end

section
set_option linter.unusedVariables false
set_option linter.unusedSimpArgs false
set_option linter.constructorNameAsVariable false
set_option autoImplicit false
set_option linter.unusedVariables false
namespace Hb
open Go
theorem kept_of_heap {w w' : World} (ho : w'.os = w.os) (hp : w'.output = w.output) (h : ∀ i, i < w.heap.size → w'.heap[i]? = w.heap[i]?) (may : MemPlace → Prop) : w.keptBut w' may := by
  refine ⟨ho, hp, fun i hi => ?_⟩
  rw [h i hi]
  exact (World.keptBut_refl w may).2.2 i hi
def GlobOk (P : Prg) (W : World) : Prop := ∀ g cs, P.glob g = some cs → g < W.heap.size ∧ RepAt ⟨W, [], fun _ => (0, 0), 0, fun b => b < W.heap.size⟩ g 0 cs
theorem GlobOk.none {P : Prg} {W : World} (h : P.glob = fun _ => none) : GlobOk P W := fun g cs hc => by rw [h] at hc; cases hc
theorem ACall.calls {P : Prg} {W : World} (hg : GlobOk P W) {g : FuncId} {args : List AV} {vs : List Value} {x : Bool} (h : ACall P g args ([], 0) fun v' _ => v' = .b x) (hv : ∀ c, RepL c args vs) :
    Calls P.toProgram g vs.toArray W fun e w' => e = .returned (.bool x) ∧ ∀ may, W.keptBut w' may := by
  let c : Cx := ⟨W, [], fun _ => (0, 0), 0, fun b => b < W.heap.size⟩
  have hs : Sim P c := ⟨fun r b hb => (by simp [c] at hb), fun r r' b b' hb => (by simp [c] at hb), fun r b hb => (by simp [c] at hb), fun _ h => h, hg⟩
  refine (callsIn_wide.1 (h.2 c vs rfl hs (hv c))).mono fun e w' ⟨c', v, av, e1, e2, e3, e4, e5, e6⟩ => ?_
  subst e6
  subst e2
  have : v = .bool x := e5
  subst this
  refine ⟨e1, fun may => kept_of_heap e4.os e4.output (fun i hi => e4.keep i hi ?_) may⟩
  rintro ⟨r, blk, hb, _⟩
  simp [c] at hb
theorem rep_ints {c : Cx} {b : Nat} {k : IntKind} : ∀ {l : List Int} {off : Nat}, (∀ r, (h : r < l.length) → c.w.cell? ⟨b, off + r, none⟩ = some (.int k l[r])) → RepAt c b off (l.map (AV.i k))
  | [], off, h => by simp only [List.map_nil, RepAt]
  | a :: l, off, h => by
    simp only [List.map_cons, RepAt]
    refine ⟨⟨.int k a, h 0 (by simp), rfl, by simp only [RepV]⟩, rep_ints fun r hr => ?_⟩
    have := h (r + 1) (by simpa using hr)
    rw [show off + 1 + r = off + (r + 1) from by omega]
    exact this
theorem laid_ints {P : Program} {w : World} {g n : Nat} {name : String} {t e : TypeId} {k : IntKind} {l : List Int} {cs : Array Value} {fuel : Nat} {p : List MemPlace}
    (hg : P.globalNamed name = some g) (ht : P.underlying t = some (.array n e)) (he : P.underlying e = some (.int k)) (hc : P.cellsOf e = 1) (hn : l.length = n)
    (hv : w.var? P name = some cs) (hd : DataW.trod (H := Unit) (fun _ => ()) P w 0 (fun _ => true) false fuel t cs.toList = some (.agg (l.map fun z => .lit (.int k z)), p)) :
    ∀ r, (h : r < l.length) → w.cell? ⟨g, r, none⟩ = some (.int k l[r]) := by
  intro r hr
  obtain ⟨xs, m, _, ex, _, hl, hel⟩ := DataW.trod_array ht hd
  have hE := hel r (by omega)
  rw [hc, Nat.mul_one, List.getElem?_eq_getElem (by omega)] at hE
  obtain ⟨z, e1, e2, _⟩ := DataW.trod_int he hE
  have e3 : (xs.map (·.1)) = l.map fun z => .lit (.int k z) := (DataW.agg.inj (Prod.mk.inj ex).1).symm
  have e4 : (xs.map (·.1))[r]? = (l.map fun z => (DataW.lit (.int k z) : DataW Unit))[r]? := by rw [e3]
  rw [List.getElem?_map, List.getElem?_map, List.getElem?_eq_getElem (by omega : r < xs.length), List.getElem?_eq_getElem hr, e2] at e4
  have hz : z = l[r] := by
    simp only [Option.map_some, Option.some.injEq, DataW.lit.injEq, Lit.int.injEq, true_and] at e4
    exact e4
  rw [World.var?_cell hg hv r, ← hz]
  have : cs.toList[r]? = some (.int k z) := by
    have h0 : ((cs.toList.drop r).take 1)[0]? = some (.int k z) := by rw [e1]; rfl
    simpa using h0
  simpa using this
theorem laid_get {P : Program} {w : World} : ∀ {laid : List (String × DataW Unit)} {ps : List MemPlace} {i : Nat} {n : String} {d : DataW Unit}, DataW.LaidVars P w laid ps → laid[i]? = some (n, d) →
    ∃ g t cs fuel p, P.globalNamed n = some g ∧ (P.globals[g]?).map (·.type) = some t ∧ w.var? P n = some cs ∧ DataW.trod (H := Unit) (fun _ => ()) P w 0 (fun _ => true) false fuel t cs.toList = some (d, p)
  | [], ps, i, n, d, h, hi => by simp at hi
  | (n0, d0) :: laid, ps, 0, n, d, h, hi => by
    simp only [List.getElem?_cons_zero, Option.some.injEq, Prod.mk.injEq] at hi
    obtain ⟨rfl, rfl⟩ := hi
    obtain ⟨g, t, cs, fuel, p, q, h1, h2, h3, h4, _⟩ := h
    exact ⟨g, t, cs, fuel, p, h1, h2, h3, h4⟩
  | (n0, d0) :: laid, ps, i + 1, n, d, h, hi => by
    obtain ⟨g, t, cs, fuel, p, q, h1, h2, h3, h4, h5, _⟩ := h
    exact laid_get h5 (by simpa using hi)
theorem laid_int {P : Program} {w : World} {g : Nat} {name : String} {t : TypeId} {k : IntKind} {z : Int} {cs : Array Value} {fuel : Nat} {p : List MemPlace}
    (hg : P.globalNamed name = some g) (ht : P.underlying t = some (.int k)) (hv : w.var? P name = some cs) (hd : DataW.trod (H := Unit) (fun _ => ()) P w 0 (fun _ => true) false fuel t cs.toList = some (.lit (.int k z), p)) :
    w.cell? ⟨g, 0, none⟩ = some (.int k z) := by
  obtain ⟨n, e1, e2, _⟩ := DataW.trod_int ht hd
  have : n = z := by
    have := (Prod.mk.inj e2).1
    simp only [DataW.lit.injEq, Lit.int.injEq, true_and] at this
    exact this.symm
  subst this
  rw [World.var?_cell hg hv 0]
  have : cs.toList[0]? = some (.int k n) := by rw [e1]; rfl
  simpa using this
end Hb
end

section
set_option linter.unusedVariables false
set_option linter.unusedSimpArgs false
set_option linter.constructorNameAsVariable false
set_option autoImplicit false
set_option linter.unusedVariables false
set_option linter.unusedSimpArgs false
set_option linter.constructorNameAsVariable false
namespace Hb
open Go
noncomputable def findC (L : List (List AV × AV)) (as : List AV) : Option AV :=
  List.rec (motive := fun _ => Option AV) none (fun e _ ih => cond (avEq (.tup e.1) (.tup as)) (some e.2) ih) L
theorem findC_mem {as : List AV} {v : AV} : ∀ {L : List (List AV × AV)}, findC L as = some v → (as, v) ∈ L
  | [], h => by cases h
  | (x, y) :: L, h => by
    have h : cond (avEq (.tup x) (.tup as)) (some y) (findC L as) = some v := h
    cases hc : avEq (.tup x) (.tup as) with
    | true =>
      rw [hc] at h
      cases h
      have := avEq_eq hc
      cases this
      exact List.mem_cons_self
    | false => rw [hc] at h; exact List.mem_cons_of_mem _ (findC_mem h)
noncomputable def evalC (b : Fun) (R : Rec) (as : List AV) : Option AV :=
  match b R as ⟨.e, 0, 0⟩ with
  | some a => colA (fun v s => inlN 60 s v) a
  | none => none
noncomputable def chkC (b : Fun) (R : Rec) (L : List (List AV × AV)) : Bool :=
  List.rec (motive := fun _ => Bool) true (fun e _ ih => cond (match evalC b R e.1 with | some v => avEq v e.2 | none => false) ih false) L
theorem chkC_mem {b : Fun} {R : Rec} {as : List AV} {v : AV} : ∀ {L : List (List AV × AV)}, chkC b R L = true → (as, v) ∈ L → evalC b R as = some v
  | [], _, h => by cases h
  | e :: L, hc, h => by
    have hc : cond (match evalC b R e.1 with | some v => avEq v e.2 | none => false) (chkC b R L) false = true := hc
    cases he : (match evalC b R e.1 with | some v => avEq v e.2 | none => false) with
    | false => rw [he] at hc; cases hc
    | true =>
      rw [he] at hc
      rcases List.mem_cons.1 h with rfl | h
      · split at he
        · rename_i v' hv
          rw [hv]
          exact congrArg some (avEq_eq he)
        · cases he
      · exact chkC_mem hc h
theorem colA_all {f : AV → ES → Option AV} {key : AV} : ∀ {a : Ans}, colA f a = some key → AllRet (fun v s => f v s = some key) a
  | .ret v0 s0, h => h
  | .ex _ _ _, h => by cases h
  | .two x y, h => by
    have h : (match colA f x, colA f y with
      | some x, some y => cond (avEq x y) (some x) none
      | _, _ => none) = some key := h
    cases hx : colA f x with
    | none => rw [hx] at h; cases h
    | some kx =>
      cases hy : colA f y with
      | none => rw [hx, hy] at h; cases h
      | some ky =>
        rw [hx, hy] at h
        simp only at h
        cases he : avEq kx ky with
        | false => rw [he] at h; cases h
        | true =>
          rw [he] at h
          cases h
          have e := avEq_eq he
          subst e
          exact ⟨colA_all hx, colA_all hy⟩
theorem AllRet.mono' {Φ Ψ : AV → ES → Prop} (h : ∀ v s, Φ v s → Ψ v s) : ∀ {a : Ans}, AllRet Φ a → AllRet Ψ a
  | .ret _ _, q => h _ _ q
  | .ex _ _ _, q => q
  | .two _ _, q => ⟨AllRet.mono' h q.1, AllRet.mono' h q.2⟩
noncomputable def constOv (L : List (List AV × AV)) : Fun := cloOv (findC L)
theorem constOv_ok {P : Prg} (hG : GlobClo P) {g : FuncId} {b : Fun} {R : Rec} {L : List (List AV × AV)} (hb : SOk P g b) (hR : RecOk P R) (h : chkC b R L = true) : SOk P g (constOv L) :=
  cloOv_ok hG hb hR fun as v hf _ => by
    have he := chkC_mem h (findC_mem hf)
    unfold evalC at he
    split at he
    case h_2 => cases he
    rename_i a ha
    exact ⟨a, ha, AllRet.mono' (fun v0 s0 h0 => ⟨v, inlN_inl 60 h0, rfl⟩) (colA_all he)⟩
theorem constOv_c {L : List (List AV × AV)} {R : Rec} {args : List AV} {v : AV} {s : ES} (h : cond (cloBL args) (match findC L args with | some w => avEq w v | none => false) false = true) : constOv L R args s = some (.ret v s) := by
  cases h1 : cloBL args with
  | false => rw [h1] at h; cases h
  | true =>
    rw [h1] at h
    have h2 : (match findC L args with | some w => avEq w v | none => false) = true := h
    split at h2
    · rename_i w hw
      exact cloOv_c ((cloBL_iff _).1 h1) (by rw [hw]; exact congrArg some (avEq_eq h2))
    · cases h2
noncomputable def isC (L : List (List AV × AV)) (e : List AV) : Bool := cond (cloBL [.agg e]) (match findC L [.agg e] with | some w => avEq w (.b true) | none => false) false
theorem isC_c {L : List (List AV × AV)} {R : Rec} {e : List AV} (h : isC L e = true) (s : ES) : constOv L R [.agg e] s = some (.ret (.b true) s) := constOv_c h
theorem ACall.callsW {P : Prg} {W : World} (hg : GlobOk P W) {g : FuncId} {args : List AV} {vs : List Value} {x : Bool} (h : ACall P g args ([], 0) fun v' _ => v' = .b x)
    (hv : RepL ⟨W, [], fun _ => (0, 0), 0, fun b => b < W.heap.size⟩ args vs) : Calls P.toProgram g vs.toArray W fun e w' => e = .returned (.bool x) ∧ ∀ may, W.keptBut w' may := by
  let c : Cx := ⟨W, [], fun _ => (0, 0), 0, fun b => b < W.heap.size⟩
  have hs : Sim P c := ⟨fun r b hb => (by simp [c] at hb), fun r r' b b' hb => (by simp [c] at hb), fun r b hb => (by simp [c] at hb), fun _ h => h, hg⟩
  refine (callsIn_wide.1 (h.2 c vs rfl hs hv)).mono fun e w' ⟨c', v, av, e1, e2, e3, e4, e5, e6⟩ => ?_
  subst e6
  subst e2
  have : v = .bool x := e5
  subst this
  refine ⟨e1, fun may => kept_of_heap e4.os e4.output (fun i hi => e4.keep i hi ?_) may⟩
  rintro ⟨r, blk, hb, _⟩
  simp [c] at hb
end Hb
end

section
set_option linter.unusedVariables false
set_option linter.unusedSimpArgs false
set_option linter.constructorNameAsVariable false
set_option autoImplicit false
set_option linter.unusedVariables false
set_option linter.unusedSimpArgs false
set_option linter.constructorNameAsVariable false
namespace Hb
open Go
theorem spot_of {P : Program} {W : World} {r : Reach} {base : Nat} {t e : TypeId} {a : Addr} {n cap : Nat} (ht : P.underlying t = some (.slice e)) (h : Value.okWide P W r base t (.slice (some a) n cap)) : a.spot = none := by
  simp only [Value.okWide, ht, Cell.okWide, Cell.ok] at h
  exact h.2.2.2.1
theorem ints_arg {H : Type} {enc : TypeId × Value → H} {P : Program} {W : World} {r : Reach} {base : Nat} {held : Bool} {t e : TypeId} {k : IntKind} {v : Value} {d : DataW H} {ps : List MemPlace}
    (ht : P.underlying t = some (.slice e)) (he : P.underlying e = some (.int k)) (hc : P.cellsOf e = 1) (hv : Value.okWide P W r base t v) (h : DataW.Trod enc P W 0 (fun _ => true) held t v d ps) :
    ∃ l : List Int, RepV ⟨W, [], fun _ => (0, 0), 0, fun b => b < W.heap.size⟩ (.sl 1 l.length (l.map (AV.i k))) v ∧ (∀ n ∈ l, (Lit.int k n).wf = true) ∧
      ∀ W', (∀ may, W.keptBut W' may) → DataW.Trod enc P W' 0 (fun b => decide (b < W.heap.size)) held t v d ps := by
  obtain ⟨a0, n0, c0, rfl⟩ := Go.WideShapes.okWide_slice ht hv
  obtain ⟨fuel, hf⟩ := h
  rcases Go.ChangeShapes.open_ints ht he hc hf with ⟨hcs, hx⟩ | ⟨a, len, cap, zs, hcs, _, hle, hm, hz, hx, hcell, hw⟩
  · simp [Value.cells] at hcs
    obtain ⟨rfl, rfl, rfl⟩ := hcs
    simp only [Prod.mk.injEq] at hx
    obtain ⟨rfl, rfl⟩ := hx
    exact ⟨[], by simp [RepV], by simp, fun W' _ => Go.RowKit.shut_slice_nil ht⟩
  · simp [Value.cells] at hcs
    obtain ⟨rfl, rfl, rfl⟩ := hcs
    simp only [Prod.mk.injEq] at hx
    obtain ⟨rfl, rfl⟩ := hx
    have hsp := spot_of ht hv
    obtain ⟨b, off, spot⟩ := a
    have hsp : spot = none := hsp
    subst hsp
    simp only [if_true] at hz
    have hcell' : ∀ i, i < zs.length → W.cell? ⟨b, off + i, none⟩ = some (.int k (zs.getD i 0)) := fun i hi => by rw [← Go.WideShapes.add_plain]; exact hcell i hi
    have hb : 0 < zs.length → b < W.heap.size := by
      intro h0
      have := hcell' 0 h0
      unfold World.cell? at this
      cases hh : W.heap[b]? with
      | none => simp [hh] at this
      | some o => exact (Array.getElem?_eq_some_iff.1 hh).1
    refine ⟨zs.take n0, ?_, fun n hn => hw n (List.mem_of_mem_take hn), fun W' hk => ?_⟩
    · simp only [RepV]
      have hl : (zs.take n0).length = n0 := by rw [List.length_take]; omega
      refine ⟨by simp, .inr ⟨b, off, c0, by rw [hl], by omega, fun hne => hb ?_, rep_ints fun q hq => ?_⟩⟩
      · cases zs with
        | nil => simp at hne
        | cons x xs => simp
      · have h1 := hcell' q (by simp at hq; omega)
        rw [h1]
        simp [List.getD, List.getElem_take]
        rw [List.getElem?_eq_getElem (by simp at hq; omega)]
        rfl
    · by_cases h0 : 0 < zs.length
      · have hlt := hb h0
        exact ⟨2, Go.ChangeShapes.shut_ints 0 ht he hc (Nat.zero_le _) hle hm (by simp [hlt, hz]) (fun i hi => by
          rw [Go.WideShapes.add_plain, (hk (fun _ => False)).cell hlt (fun h => h)]
          exact hcell' i hi) hw⟩
      · have hz0 : zs.length = 0 := by omega
        have hc0 : c0 = 0 := by omega
        have hn0 : n0 = 0 := by omega
        exact ⟨2, Go.ChangeShapes.shut_ints 0 ht he hc (Nat.zero_le _) hle hm (by rw [hz0, hc0, hn0]; simp) (fun i hi => by omega) hw⟩
end Hb
end

section
set_option linter.unusedVariables false
set_option linter.unusedSimpArgs false
set_option linter.constructorNameAsVariable false
set_option autoImplicit false
set_option linter.unusedVariables false
namespace Hb
open Go
theorem decI_sl (k : IntKind) (a : List Int) : (encI k).decS (.sl 1 a.length (a.map (AV.i k))) = some a := by
  have := (encI k).decS_sl a
  rw [Enc.sl] at this
  have e2 : (encI k).encL a = a.map (.i k) := by
    simp only [Enc.encL]
    rw [← List.flatMap_singleton' (a.map (AV.i k))]
    simp [List.flatMap_map, encI]
  rw [e2] at this
  exact this
theorem byte_wf {a : Int} (h : (Lit.int .u8 a).wf = true) : 0 ≤ a ∧ a ≤ 255 := by
  unfold Lit.wf at h
  rw [Bool.and_eq_true, decide_eq_true_eq, decide_eq_true_eq] at h
  exact h
end Hb
end

section
set_option linter.unusedVariables false
set_option linter.unusedSimpArgs false
set_option linter.constructorNameAsVariable false
set_option autoImplicit false
set_option linter.unusedVariables false
set_option linter.unusedSimpArgs false
set_option linter.constructorNameAsVariable false
namespace Hb
open Go
def andI (k : IntKind) (a b : Int) : Int := k.wrap (BitVec.ofInt k.bits a &&& BitVec.ofInt k.bits b).toNat
def orI (k : IntKind) (a b : Int) : Int := k.wrap (BitVec.ofInt k.bits a ||| BitVec.ofInt k.bits b).toNat
def andNotI (k : IntKind) (a b : Int) : Int := k.wrap (BitVec.ofInt k.bits a &&& ~~~ BitVec.ofInt k.bits b).toNat
def shlI (k : IntKind) (a b : Int) : Int := k.wrap (a * 2 ^ (min b.toNat k.bits))
def shrI (k : IntKind) (a b : Int) : Int := a.fdiv (2 ^ (min b.toNat k.bits))
theorem pBin_and (k : IntKind) (a b : Int) (K : KP) : pBin .and (.i k a) (.i k b) K = K (.i k (andI k a b)) := by rw [pBin_eq]; simp [xbin, xint, andI, kont_v]
theorem pBin_or (k : IntKind) (a b : Int) (K : KP) : pBin .or (.i k a) (.i k b) K = K (.i k (orI k a b)) := by rw [pBin_eq]; simp [xbin, xint, orI, kont_v]
theorem pBin_andNot (k : IntKind) (a b : Int) (K : KP) : pBin .andNot (.i k a) (.i k b) K = K (.i k (andNotI k a b)) := by rw [pBin_eq]; simp [xbin, xint, andNotI, kont_v]
theorem pBin_shl (k k' : IntKind) (a b : Int) (hb : 0 ≤ b) (K : KP) : pBin .shl (.i k a) (.i k' b) K = K (.i k (shlI k a b)) := by
  have : ¬ b < 0 := by omega
  rw [pBin_eq]; simp [xbin, xshift, shlI, kont_v, this]
theorem pBin_shr (k k' : IntKind) (a b : Int) (hb : 0 ≤ b) (K : KP) : pBin .shr (.i k a) (.i k' b) K = K (.i k (shrI k a b)) := by
  have : ¬ b < 0 := by omega
  rw [pBin_eq]; simp [xbin, xshift, shrI, kont_v, this]
theorem pIadrA_pe {s : ES} {kk len o m : Nat} {cs : List AV} {k' i0 : Nat} {kd : IntKind} {z : Int} {k : KP} (hz : z = (m : Nat)) (hm : m < len) : pIadrA s kk len (.pe cs k' i0 o) (.i kd z) k = k (.pe cs k' i0 (o + m * kk)) := by
  subst hz
  rw [pIadrA_def]
  show cnd (Nat.ble (Nat.succ m) len) (frcN (Nat.add o (Nat.mul m kk)) fun o => k (.pe cs k' i0 o)) none = _
  rw [Nat.ble_eq_true_of_le (show Nat.succ m ≤ len from hm)]
  simp only [cnd_eq, cond_true, frcN_eq]
  rfl
def firstI (b : Int) : Int := if b < 128 then 240 else if b < 194 then 241 else if b < 224 then 2 else if b = 224 then 19 else if b = 237 then 35 else if b < 240 then 3 else if b = 240 then 52 else if b < 244 then 4 else if b = 244 then 68 else 241
def accL : List Int := [128, 191, 160, 191, 128, 159, 144, 191, 128, 143] ++ List.replicate 22 0
structure Tabs8 (I : Ids) : Prop where
  acc : I.g 0 = accL.map (.i .u8)
  fst : I.g 1 = (List.range 256).map fun (n : Nat) => .i .u8 (firstI (n : Int))
def contI (b : Int) : Int := IntKind.i32.wrap (andI .u8 b 63)
def hiI (p m : Int) : Int := IntKind.i32.wrap (andI .u8 p m)
def szI (p : Int) : Nat := if p < 224 then 2 else if p < 240 then 3 else 4
def loI (p : Int) : Int := if p = 224 then 160 else if p = 240 then 144 else 128
def upI (p : Int) : Int := if p = 237 then 159 else if p = 244 then 143 else 191
def getI (l : List Int) (i : Nat) : Int := (l[i]?).getD 0
def decM (p0 : Int) (sz : Nat) (lo hi : Int) (l : List Int) : Int × Int :=
  if l.length < sz then (65533, 1) else
  if getI l 1 < lo ∨ hi < getI l 1 then (65533, 1) else
  if sz ≤ 2 then (orI .i32 (shlI .i32 (hiI p0 31) 6) (contI (getI l 1)), 2) else
  if getI l 2 < 128 ∨ 191 < getI l 2 then (65533, 1) else
  if sz ≤ 3 then (orI .i32 (orI .i32 (shlI .i32 (hiI p0 15) 12) (shlI .i32 (contI (getI l 1)) 6)) (contI (getI l 2)), 3) else
  if getI l 3 < 128 ∨ 191 < getI l 3 then (65533, 1) else
  (orI .i32 (orI .i32 (orI .i32 (shlI .i32 (hiI p0 7) 18) (shlI .i32 (contI (getI l 1)) 12)) (shlI .i32 (contI (getI l 2)) 6)) (contI (getI l 3)), 4)
def decV (l : List Int) : Int × Int := match l with
  | [] => (65533, 0)
  | p0 :: _ => if p0 < 128 then (p0, 1) else if p0 < 194 ∨ 244 < p0 then (65533, 1) else decM p0 (szI p0) (loI p0) (upI p0) l
def encU8 : Enc Int := encI .u8
def bytesP (l : List Int) : Bool := l.all fun b => decide (0 ≤ b) && decide (b ≤ 255)
def decF : List AV → Option AV
  | [v] => match (encI .u8).decS v with
    | some l => if bytesP l = true ∧ l.length < 100000 then some (.tup [.i .i32 (decV l).1, .i .i64 (decV l).2]) else none
    | none => none
  | _ => none
section
variable {I : Ids}
theorem get_of {l : List Int} {i : Nat} (h : i < l.length) : l[i]? = some (getI l i) := by unfold getI; rw [List.getElem?_eq_getElem h]; rfl
theorem fst_load (hT : Tabs8 I) {p : Int} (h0 : 0 ≤ p) (h1 : p ≤ 255) {s : ES} (K : KP) : (pIadrA s 1 256 (.pe (I.g 1) 256 0 0) (.i .u8 p) fun v => pLoad s false 1 v K) = K (.i .u8 (firstI p)) := by
  rw [pIadrA_pe (m := p.toNat) (by omega) (by omega), pLoad_pe, loadK_f (v := .i .u8 (firstI p)) (by omega) (by rw [hT.fst]; simp)]
  rw [hT.fst, List.getElem?_map]
  rw [List.getElem?_range (by omega)]
  simp only [Option.map_some]
  congr 3
  simp; omega
theorem acc_load (hT : Tabs8 I) {ai : Nat} (ha : ai < 16) {lo hi : Int} (hlo : accL[2 * ai]? = some lo) (hhi : accL[2 * ai + 1]? = some hi) {s : ES} {z : Int} (hz : z = (ai : Nat)) (K : KP) :
    (pIadrA s 2 16 (.pe (I.g 0) 32 0 0) (.i .u8 z) fun v => pLoad s true 2 v K) = K (.agg [.i .u8 lo, .i .u8 hi]) := by
  rw [pIadrA_pe (m := ai) hz (by omega), pLoad_pe, loadK_t (by omega) (by rw [hT.acc]; decide), hT.acc]
  have e : ((accL.map (AV.i .u8)).drop (0 * 32 + (0 + ai * 2))).take 2 = [.i .u8 lo, .i .u8 hi] := by
    apply List.ext_getElem?
    intro j
    rw [List.getElem?_take]
    by_cases h0 : j = 0
    · subst h0
      rw [if_pos (by omega), List.getElem?_drop, List.getElem?_map, show 0 * 32 + (0 + ai * 2) + 0 = 2 * ai from by omega, hlo]; rfl
    by_cases h1 : j = 1
    · subst h1
      rw [if_pos (by omega), List.getElem?_drop, List.getElem?_map, show 0 * 32 + (0 + ai * 2) + 1 = 2 * ai + 1 from by omega, hhi]; rfl
    · rw [if_neg (by omega), List.getElem?_eq_none (by simp; omega)]
  rw [e]
end
end Hb
end
