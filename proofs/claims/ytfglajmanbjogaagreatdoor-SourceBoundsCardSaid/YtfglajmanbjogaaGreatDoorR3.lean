import Derived.Test.YtfglajmanbjogaaGreatDoorL3
set_option autoImplicit false
set_option maxRecDepth 100000
namespace Tb
open Go Hb
theorem bRem_mod (kd : IntKind) (a m : Nat) (k : KP) : bRem (.i kd (.ofNat a)) (.i kd (.ofNat m)) k = bRem (.i kd (.ofNat (a % m))) (.i kd (.ofNat m)) k := by
  show cond (kEq kd kd) (iRem kd (.ofNat a) (.ofNat m) k) none = cond (kEq kd kd) (iRem kd (.ofNat (a % m)) (.ofNat m) k) none
  rw [iRem_eq, iRem_eq]
  have : (Int.ofNat a).tmod (Int.ofNat m) = (Int.ofNat (a % m)).tmod (Int.ofNat m) := by
    show Int.ofNat (a % m) = Int.ofNat (a % m % m)
    rw [Nat.mod_mod]
  rw [this]
section
variable {v w : AV} (hv : ∀ K, bRem v (.i .u8 5) K = bRem w (.i .u8 5) K)
include hv
theorem jv_rem (F : ES → AV → ES → Res) (c : AV) (s : ES) :
    (jv (fun v107 s108 => jv (F s108) fun K112 => eGuard c true (bRem v107 (.i .u8 5) fun v113 => K112 v113 s108) (K112 (.tup []) s108)) fun K109 => eGuard c true (K109 v s) (K109 (.tup []) s)) =
    jv (fun v107 s108 => jv (F s108) fun K112 => eGuard c true (bRem v107 (.i .u8 5) fun v113 => K112 v113 s108) (K112 (.tup []) s108)) fun K109 => eGuard c true (K109 w s) (K109 (.tup []) s) := by
  cases c <;> try rfl
  case tup l => cases l <;> rfl
  case b y =>
    cases y with
    | false => rfl
    | true => 
      show jv (F s) (fun K112 => eGuard (.b true) true (bRem v (.i .u8 5) fun v113 => K112 v113 s) (K112 (.tup []) s)) = jv (F s) (fun K112 => eGuard (.b true) true (bRem w (.i .u8 5) fun v113 => K112 v113 s) (K112 (.tup []) s))
      simp only [hv]
theorem j1 (R : Rec) (v19 v7 v20 v18 : AV) : b3j1 R v19 v7 v v20 v18 = b3j1 R v19 v7 w v20 v18 := by
  unfold b3j1
  simp only [jv_rem hv]
  rfl
theorem j2 (R : Rec) (v7 v10 : AV) : b3j2 R v7 v v10 = b3j2 R v7 w v10 := by
  unfold b3j2
  simp only [j1 hv]
  rfl
theorem j4 (R : Rec) (v163 v161 : AV) (K : Cur [7, 8]) : b3j4 R v163 v v161 K = b3j4 R v163 w v161 K := by
  unfold b3j4
  simp only [hv]
  rfl
theorem j5 (R : Rec) (v163 : AV) (K160 : Cur [7, 8, 9]) (v161 v10 v162 : AV) : b3j5 R v163 K160 v v161 v10 v162 = b3j5 R v163 K160 w v161 v10 v162 := by
  unfold b3j5
  simp only [j4 hv]
  rfl
theorem l6 (R : Rec) (v10 v7 : AV) (K : Cur [7, 8]) : b3l6 R v v10 v7 K = b3l6 R w v10 v7 K := by
  unfold b3l6
  simp only [j5 hv]
  rfl
theorem j7 {v1 w1 : AV} (h1 : ∀ K, bRem v1 (.i .u8 36) K = bRem w1 (.i .u8 36) K) (R : Rec) : b3j7 R v1 v = b3j7 R w1 w := by
  unfold b3j7
  simp only [h1, hv, j2 hv, l6 hv]
  rfl
end
theorem red (R : Rec) (m k : Nat) (s : ES) : b3 R [.i .u8 (.ofNat m), .i .u8 (.ofNat k)] s = b3 R [.i .u8 (.ofNat (m % 36)), .i .u8 (.ofNat (k % 5))] s := by
  have := j7 (fun K => bRem_mod .u8 k 5 K) (fun K => bRem_mod .u8 m 36 K) R
  let B : Cur [] → Res := fun K197 => callK (known10 R [] s) fun v198 s199 => pUn .not v198 fun v200 => eCond v200 (some (.ret (.b false) s199)) (K197 [] s199)
  show jn [] (b3j7 R (.i .u8 (.ofNat m)) (.i .u8 (.ofNat k))) B = jn [] (b3j7 R (.i .u8 (.ofNat (m % 36))) (.i .u8 (.ofNat (k % 5)))) B
  rw [this]
end Tb
