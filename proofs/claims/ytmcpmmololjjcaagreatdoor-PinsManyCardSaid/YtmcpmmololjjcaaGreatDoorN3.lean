import Derived.Test.YtmcpmmololjjcaaGreatDoorAll
import Derived.Test.YtmcpmmololjjcaaGreatDoorH11
set_option autoImplicit false
set_option maxRecDepth 1000000
set_option linter.unusedVariables false
namespace Tb
open Go Hb
/-! slices.Sorted of a map's keys, whatever order they come in. -/
noncomputable abbrev R0 : Rec := run tab ttab 1000
noncomputable abbrev R1 : Rec := run tab ttab 999
noncomputable abbrev R2 : Rec := run tab ttab 998
noncomputable abbrev R3 : Rec := run tab ttab 997
noncomputable abbrev R4 : Rec := run tab ttab 996
noncomputable def kyI (v : AV) : Bool := match v with
  | .i .i64 _ => true
  | _ => false
theorem kyI_of {v : AV} (h : kyI v = true) : ∃ n, v = .i .i64 n := by
  unfold kyI at h
  split at h
  · exact ⟨_, rfl⟩
  · cases h
theorem kyI_key (v : AV) (h : kyI v = true) : KeyL v := KyI.key (kyI_of h)
theorem kyI_lt : LtOn avLt (fun v => kyI v = true) := ⟨fun x y hx hy => ltOn_I.asym x y (kyI_of hx) (kyI_of hy), fun x y z hx hy hz => ltOn_I.ntrans x y z (kyI_of hx) (kyI_of hy) (kyI_of hz), fun x y hx hy => ltOn_I.anti x y (kyI_of hx) (kyI_of hy)⟩
theorem kyI_flat (v : AV) (h : kyI v = true) : flat v = true := by obtain ⟨n, rfl⟩ := kyI_of h; rfl
theorem nan (a : Int) (s : ES) : R4.f 210 [.i .i64 a] s = some (.ret (.b false) s) := by
  show cnd (kEq .i64 .i64) (bK (!iEq a a) fun v3 => some (.ret v3 s)) none = _
  rw [bK_eq, iEq_eq, decide_eq_true rfl]
  rfl
theorem less_ok (x y : AV) (s : ES) (hx : kyI x = true) (hy : kyI y = true) : R3.f 141 [x, y] s = some (.ret (.b (avLt x y)) s) := by
  obtain ⟨a, rfl⟩ := kyI_of hx
  obtain ⟨b, rfl⟩ := kyI_of hy
  show callK (R4.f 210 [.i .i64 a] s) _ = _
  rw [nan]
  show cnd (kEq .i64 .i64) (bK (iLt a b) fun v26 => pPick (.b false) (.b true) v26 fun v27 => some (.ret v27 s)) none = _
  rw [bK_eq]
  rfl
theorem eS : ∀ args s, b18 R0 args s = sortedBody (collectBody (R1.f 77)) (sortBody (R1.f 79) (R1.f 78)) args s := by intro args s; kernel_rfl
theorem eC : ∀ args s, R1.f 77 args s = seqBody 29 (.tag 16 t16) (.tag 17 t17) R2 args s := by intro args s; kernel_rfl
theorem eA : ∀ f s, R3.b 13 (.tag 16 t16) f s = assignBody f s := by intro f s; kernel_rfl
theorem eB : ∀ f s, R3.b 13 (.tag 17 t17) f s = appendBody 3 (.i .i64 0) f s := by intro f s; kernel_rfl
theorem len_ok (n : Nat) (s : ES) (h : n ≤ 12) : ∃ m, R1.f 79 [.i .u64 (.ofNat n)] s = some (.ret m s) := match n, h with
  | 0, _ => ⟨aI 0, by kernel_rfl⟩
  | 1, _ => ⟨aI 1, by kernel_rfl⟩
  | 2, _ => ⟨aI 2, by kernel_rfl⟩
  | 3, _ => ⟨aI 2, by kernel_rfl⟩
  | 4, _ => ⟨aI 3, by kernel_rfl⟩
  | 5, _ => ⟨aI 3, by kernel_rfl⟩
  | 6, _ => ⟨aI 3, by kernel_rfl⟩
  | 7, _ => ⟨aI 3, by kernel_rfl⟩
  | 8, _ => ⟨aI 4, by kernel_rfl⟩
  | 9, _ => ⟨aI 4, by kernel_rfl⟩
  | 10, _ => ⟨aI 4, by kernel_rfl⟩
  | 11, _ => ⟨aI 4, by kernel_rfl⟩
  | 12, _ => ⟨aI 4, by kernel_rfl⟩
  | n + 13, h => absurd h (by omega)
theorem ins_eq : ∀ args s, R2.f 135 args s = insBody (R3.f 141) args s := by intro args s; kernel_rfl
theorem pdq_1 (v : AV) (n : Nat) (m : AV) (s : ES) (h : n ≤ 12) : R1.f 78 [v, .i .i64 0, aI n, m] s = callK (R2.f 135 [v, .i .i64 0, aI n] s) fun _ s8 => some (.ret (.tup []) s8) := match n, h with
  | 0, _ => by kernel_rfl
  | 1, _ => by kernel_rfl
  | 2, _ => by kernel_rfl
  | 3, _ => by kernel_rfl
  | 4, _ => by kernel_rfl
  | 5, _ => by kernel_rfl
  | 6, _ => by kernel_rfl
  | 7, _ => by kernel_rfl
  | 8, _ => by kernel_rfl
  | 9, _ => by kernel_rfl
  | 10, _ => by kernel_rfl
  | 11, _ => by kernel_rfl
  | 12, _ => by kernel_rfl
  | n + 13, h => absurd h (by omega)
theorem pdq_ok (v : AV) (n : Nat) (m : AV) (s : ES) (h : n ≤ 12) : R1.f 78 [v, .i .i64 0, aI n, m] s = callK (insBody (R3.f 141) [v, .i .i64 0, aI n] s) fun _ s8 => some (.ret (.tup []) s8) := by rw [pdq_1 v n m s h, ins_eq]
theorem ek36 : ∀ args s, R2.h 36 args s = keysBody R3 args s := by intro args s; kernel_rfl
theorem wk36 : SOk prg 18 (sortedKeys kyI avLt 36 3) := sortedKeys_ok s18 (run_ok tab_ok ttab_ok 1000) kyI_flat fun s rb sb rm sm ck es h => by
  rw [eS]
  refine sorted_run kyI_key kyI_lt less_ok len_ok pdq_ok h.n h.key h.ne h.len ?_
  rw [eC]
  exact seq_run kyI_key ek36 eA eB h
theorem w18 : SOk prg 18 (orF (sortedKeys kyI avLt 36 3) (b18)) := orF_ok (wk36) (s18)
noncomputable def tab1 : Tab := .n 18 (.fn (orF (sortedKeys kyI avLt 36 3) (b18))) tab tab
theorem tab1_ok : TabOk prg tab1 := ⟨w18, tab_ok, tab_ok⟩
noncomputable abbrev RS : Rec := run tab1 ttab 1000
theorem RS_ok : RecOk prg RS := run_ok tab1_ok ttab_ok 1000
end Tb
