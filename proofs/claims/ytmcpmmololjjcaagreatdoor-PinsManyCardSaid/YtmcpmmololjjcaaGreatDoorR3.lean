import Derived.Test.YtmcpmmololjjcaaGreatDoorL3
import Derived.Test.YtmcpmmololjjcaaGreatDoorH11
set_option autoImplicit false
set_option maxRecDepth 100000
set_option linter.unusedVariables false
namespace Tb
open Go Hb
/-! The law depends on n by its remainder of 14, on drop by its remainder of the pins' number. -/
theorem bRem_mod3 (kd : IntKind) (a m : Nat) (k : KP) : bRem (.i kd (.ofNat a)) (.i kd (.ofNat m)) k = bRem (.i kd (.ofNat (a % m))) (.i kd (.ofNat m)) k := by
  show cnd (kEq kd kd) (iRem kd (.ofNat a) (.ofNat m) k) none = cnd (kEq kd kd) (iRem kd (.ofNat (a % m)) (.ofNat m) k) none
  rw [iRem_eq, iRem_eq]
  have : (Int.ofNat a).tmod (Int.ofNat m) = (Int.ofNat (a % m)).tmod (Int.ofNat m) := by
    show Int.ofNat (a % m) = Int.ofNat (a % m % m)
    rw [Nat.mod_mod]
  rw [this]
theorem pInt_small {d : Nat} {kd : IntKind} {k : KP} (h : d ≤ 255) : pInt .i64 (.i kd (.ofNat d)) k = k (aI d) := by
  show wrapK .i64 (.ofNat d) k = _
  rw [wrapK_eq, show IntKind.i64.wrap (.ofNat d) = .ofNat d from wrap_max .i64 d (by simp only [kmax]; omega)]
theorem mm8 : ∀ (n : Nat), n < 14 → ∀ (k : KP), pMM true [aI n, .i .i64 8] k = k (aI (min n 8))
  | 0, _, k => rfl | 1, _, k => rfl | 2, _, k => rfl | 3, _, k => rfl | 4, _, k => rfl | 5, _, k => rfl | 6, _, k => rfl | 7, _, k => rfl | 8, _, k => rfl | 9, _, k => rfl | 10, _, k => rfl | 11, _, k => rfl | 12, _, k => rfl | 13, _, k => rfl
  | n + 14, h, _ => absurd h (by omega)
theorem e_b3j5 (R : Rec) (d m : Nat) (v8 : AV) (hd : d ≤ 255) (hm : m ≤ 255) : b3j5 R (.i .u8 (.ofNat d)) (aI m) v8 = b3j5 R (.i .u8 (.ofNat (d % m))) (aI m) v8 := by
  have h2 : d % m ≤ 255 := Nat.le_trans (Nat.mod_le d m) hd
  unfold b3j5
  funext d19 s20
  simp only [pInt_small hd, pInt_small h2]
  rw [bRem_mod3]
theorem e_b3j6 (R : Rec) (d m : Nat) (v8 : AV) (hd : d ≤ 255) (hm : m ≤ 255) : b3j6 R (.i .u8 (.ofNat d)) (aI m) v8 = b3j6 R (.i .u8 (.ofNat (d % m))) (aI m) v8 := by
  unfold b3j6
  rw [e_b3j5 R d m v8 hd hm]
theorem e_b3j7 (R : Rec) (d n : Nat) (v8 : AV) (hd : d ≤ 255) (hn : n < 14) : b3j7 R (aI n) (.i .u8 (.ofNat d)) v8 = b3j7 R (aI n) (.i .u8 (.ofNat (d % min n 8))) v8 := by
  unfold b3j7
  funext d14 s15
  rw [mm8 n hn, mm8 n hn, e_b3j6 R d (min n 8) v8 hd (by omega)]
theorem e_b3j13 (R : Rec) (n d : Nat) (v8 : AV) (hn : n ≤ 255) (hd : d ≤ 255) : b3j13 R (.i .u8 (.ofNat n)) (.i .u8 (.ofNat d)) v8 = b3j13 R (.i .u8 (.ofNat (n % 14))) (.i .u8 (.ofNat (d % min (n % 14) 8))) v8 := by
  have h14 : n % 14 < 14 := Nat.mod_lt _ (by decide)
  have r : ∀ (a : Nat) (k : KP), bRem (.i .u8 (.ofNat a)) (.i .u8 14) k = k (.i .u8 (.ofNat (a % 14))) := fun a k => by
    show cnd (kEq .u8 .u8) (iRem .u8 (.ofNat a) (.ofNat 14) k) none = _
    rw [iRem_eq]
    rfl
  unfold b3j13
  funext d10 s11
  rw [r, r, Nat.mod_mod, pInt_small (by omega), pInt_small (by omega), e_b3j7 R d (n % 14) v8 hd h14]
theorem e_b3j14 (R : Rec) (n d : Nat) (hn : n ≤ 255) (hd : d ≤ 255) : b3j14 R (.i .u8 (.ofNat n)) (.i .u8 (.ofNat d)) = b3j14 R (.i .u8 (.ofNat (n % 14))) (.i .u8 (.ofNat (d % min (n % 14) 8))) := by
  unfold b3j14
  simp only [e_b3j13 R n d _ hn hd]
  try rfl
theorem red3 (R : Rec) (n d : Nat) (s : ES) (hn : n ≤ 255) (hd : d ≤ 255) : b3 R [.i .u8 (.ofNat n), .i .u8 (.ofNat d)] s = b3 R [.i .u8 (.ofNat (n % 14)), .i .u8 (.ofNat (d % min (n % 14) 8))] s := by
  let B : Cur [] → Res := fun K193 => (callK (knownX R [] s) fun v194 s195 => (pUn .not v194 fun v196 => (eCond v196 (some (.ret (.b false) s195)) (K193 [] s195))))
  show jn [] (b3j14 R (.i .u8 (.ofNat n)) (.i .u8 (.ofNat d))) B = jn [] (b3j14 R (.i .u8 (.ofNat (n % 14))) (.i .u8 (.ofNat (d % min (n % 14) 8)))) B
  rw [e_b3j14 R n d hn hd]
end Tb
