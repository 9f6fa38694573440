import Derived.Test.YtbckhfmmoeegaaaGreatDoorL4
set_option autoImplicit false
set_option maxRecDepth 100000
namespace Tb
open Go Hb
theorem bRem_mod (kd : IntKind) (a m : Nat) (k : KP) : bRem (.i kd (.ofNat a)) (.i kd (.ofNat m)) k = bRem (.i kd (.ofNat (a % m))) (.i kd (.ofNat m)) k := by
  show cnd (kEq kd kd) (iRem kd (.ofNat a) (.ofNat m) k) none = cnd (kEq kd kd) (iRem kd (.ofNat (a % m)) (.ofNat m) k) none
  rw [iRem_eq, iRem_eq]
  have : (Int.ofNat a).tmod (Int.ofNat m) = (Int.ofNat (a % m)).tmod (Int.ofNat m) := by
    show Int.ofNat (a % m) = Int.ofNat (a % m % m)
    rw [Nat.mod_mod]
  rw [this]
theorem j6 {v2 w2 : AV} (h2 : ∀ K, bRem v2 (.i .u8 4) K = bRem w2 (.i .u8 4) K) (R : Rec) (v3 v11 : AV) : b4j6 R v2 v3 v11 = b4j6 R w2 v3 v11 := by
  unfold b4j6
  simp only [h2]
  rfl
theorem j7 {v1 w1 v2 w2 : AV} (h1 : ∀ K, bRem v1 (.i .u8 5) K = bRem w1 (.i .u8 5) K) (h2 : ∀ K, bRem v2 (.i .u8 4) K = bRem w2 (.i .u8 4) K) (R : Rec) (v3 : AV) : b4j7 R v1 v2 v3 = b4j7 R w1 w2 v3 := by
  have e := fun v11 => j6 h2 R v3 v11
  unfold b4j7
  simp only [h1, e]
  rfl
theorem red (R : Rec) (m k : Nat) (b : Bool) (s : ES) : b4 R [.i .u8 (.ofNat m), .i .u8 (.ofNat k), .b b] s = b4 R [.i .u8 (.ofNat (m % 5)), .i .u8 (.ofNat (k % 4)), .b b] s := by
  have := j7 (fun K => bRem_mod .u8 m 5 K) (fun K => bRem_mod .u8 k 4 K) R (.b b)
  let B : Cur [] → Res := fun K116 => (callK (knownX R [] s) fun v117 s118 => (pUn .not v117 fun v119 => (eCond v119 (some (.ret (.b false) s118)) (K116 [] s118))))
  show jn [] (b4j7 R (.i .u8 (.ofNat m)) (.i .u8 (.ofNat k)) (.b b)) B = jn [] (b4j7 R (.i .u8 (.ofNat (m % 5))) (.i .u8 (.ofNat (k % 4))) (.b b)) B
  rw [this]
end Tb
