import Derived.Test.YtceefpkgodkpmaaGreatDoorH10
import Derived.Test.YtceefpkgodkpmaaGreatDoorAll
section
set_option autoImplicit false
set_option maxRecDepth 1000000
namespace Tb
open Go Hb
theorem knownE : isBool true 100000 ((run tab ttab 1000).h 4 [] ⟨.e, 0, 0⟩) = true := by decide +kernel
noncomputable def knownX : Fun := knownF true 100000
theorem knownX_ok : SOk prg 4 knownX := knownF_ok (run_ok tab_ok ttab_ok 1000) knownE
end Tb
end
section
set_option autoImplicit false
set_option maxRecDepth 100000
set_option linter.unusedVariables false
namespace Tb
open Go Hb
noncomputable def b3q1 (R : Rec) (v33 : AV) (d31 : List (Nat × Nat)) (v37 v40 : AV) (s41 : ES) : Res := (jv (fun v43 s44 => (jv (fun v47 s48 => (jv (fun v51 s52 => (jv (fun v55 s56 => (pPick v33 v55 (.b false) fun v59 => (eLeave d31 s56 fun s60 => (some (.ret v59 s60))))) fun K57 => eGuard v33 true (bGtr v37 v51 fun v58 => K57 v58 s52) (K57 (.tup []) s52))) fun K53 => eGuard v33 true (pBin .shl (.i .i64 1) v47 fun v54 => K53 v54 s48) (K53 (.tup []) s48))) fun K49 => eGuard v33 true (pInt .u64 v43 fun v50 => K49 v50 s44) (K49 (.tup []) s44))) fun K45 => eGuard v33 true (bAdd v40 (.i .i64 1) fun v46 => K45 v46 s41) (K45 (.tup []) s41))
noncomputable def b3j2 (R : Rec) (v28 v7 v27 : AV) : Cur [] := fun d31 s32 => (bEql v28 (.i .i64 0) fun v33 => (jv (fun v34 s35 => (jv (fun v37 s38 => (jv (fun v40 s41 => (b3q1 R v33 d31 v37 v40 s41)) fun K42 => eGuard v33 true (K42 v7 s38) (K42 (.tup []) s38))) fun K39 => eGuard v33 true (callK (b7 R [v34] s35) K39) (K39 (.tup []) s35))) fun K36 => eGuard v33 true (K36 v27 s32) (K36 (.tup []) s32)))
noncomputable def b3q3 (R : Rec) (d29 : List (Nat × Nat)) (s68 : ES) (v71 : AV) : Res := (eLeave d29 s68 fun s72 => (some (.ret v71 s72)))
noncomputable def b3q4 (R : Rec) (v28 : AV) (d29 : List (Nat × Nat)) (v27 : AV) (s30 : ES) : Res := (bEql v28 (.i .i64 140) fun v63 => (jv (fun v64 s65 => (jv (fun v67 s68 => (pPick v63 v67 (.b false) fun v71 => (b3q3 R d29 s68 v71))) fun K69 => eGuard v63 true (pEq s65 .ptr false v64 (.np) fun v70 => K69 v70 s65) (K69 (.tup []) s65))) fun K66 => eGuard v63 true (K66 v27 s30) (K66 (.tup []) s30)))
noncomputable def b3j5 (R : Rec) (v28 v7 v27 : AV) : Cur [] := fun d29 s30 => (jn [] (b3j2 R v28 v7 v27) fun K61 => (bGeq v7 (.i .i64 6) fun v62 => (eCond v62 (b3q4 R v28 d29 v27 s30) (K61 d29 s30))))
noncomputable def b3q6 (R : Rec) (v25 v7 v27 v19 : AV) (d14 : List (Nat × Nat)) (s26 : ES) : Res := (pExt v25 1 fun v28 => (jn [] (b3j5 R v28 v7 v27) fun K73 => (pUn .not v19 fun v74 => (eCond v74 (eLeave d14 s26 fun s75 => (some (.ret (.b false) s75))) (K73 d14 s26)))))
noncomputable def b3q7 (R : Rec) (s21 : ES) (v20 v18 v7 v19 : AV) (d14 : List (Nat × Nat)) : Res := (pStore s21 2 v20 v18 fun v22 s23 => (pLoad s23 true 2 v20 fun v24 => (callK (b6 R [v24] s23) fun v25 s26 => (pExt v25 0 fun v27 => (b3q6 R v25 v7 v27 v19 d14 s26)))))
noncomputable def b3j8 (R : Rec) (v7 : AV) : Cur [8] := fun v13 d14 s15 => (callK (b5 R [v13] s15) fun v16 s17 => (pExt v16 0 fun v18 => (pExt v16 1 fun v19 => (pRow s17 26 [(.ns),(.ns)] fun v20 s21 => (b3q7 R s21 v20 v18 v7 v19 d14)))))
noncomputable def b3j9 (R : Rec) (v7 v2 : AV) : Cur [6] := fun v8 d9 s10 => (bAdd (.s [49,58,32]) v8 fun v11 => (bAdd v11 (.s [32,62,60,10]) fun v12 => (jn [8] (b3j8 R v7) fun K76 => (eCond v2 (bAdd (.s [49,58,32,62,60,32]) v8 fun v77 => (bAdd v77 (.s [10,50,58,32,39,120,32,60,62,10]) fun v78 => (K76 v78 d9 s10))) (K76 v12 d9 s10)))))
noncomputable def b3j10 (R : Rec) (v82 : AV) (K80 : Cur [6,7]) : Cur [6] := fun v87 d88 s89 => (bAdd v82 (.i .i64 1) fun v90 => (K80 v87 v90 d88 s89))
noncomputable def b3j11 (R : Rec) (v82 : AV) (K80 : Cur [6,7]) (v81 : AV) : Cur [] := fun d85 s86 => (jn [6] (b3j10 R v82 K80) fun K91 => (bAdd v81 (.s [32,40,39,97,32,124,32,39,98,41]) fun v92 => (K91 v92 d85 s86)))
noncomputable def b3l12 (R : Rec) (v7 : AV) (K79 : Cur [6]) : Cur [6,7] → Cur [6,7] := fun K80 v81 v82 d83 s84 => (jn [] (b3j11 R v82 K80 v81) fun K93 => (bLss v82 v7 fun v94 => (eCond v94 (K93 d83 s84) (K79 v81 d83 s84))))
noncomputable def b3j13 (R : Rec) (v1 v2 : AV) : Cur [] := fun d4 s5 => (bRem v1 (.i .u8 10) fun v6 => (pInt .i64 v6 fun v7 => (jn [6] (b3j9 R v7 v2) fun K79 => (lp [6,7] 30000 (b3l12 R v7 K79) (.s [40,39,97,32,124,32,39,98,41,42,32,39,97]) (.i .i64 0) d4 s5))))
noncomputable def b3 (R : Rec) (args : List AV) (s3 : ES) : Res := argsK [0,1] args (fun v1 v2 => (jn [] (b3j13 R v1 v2) fun K95 => (callK (knownX R [] s3) fun v96 s97 => (pUn .not v96 fun v98 => (eCond v98 (some (.ret (.b false) s97)) (K95 [] s97))))))
theorem h3 : b3 = fun R args s => eEnt (withF 5 b5 R (withF 6 b6 R (withF 7 b7 R (withF 4 knownX R R)))) 63 x3 r3 [0,1] args s := by kernel_rfl
theorem s3 : SOk prg 3 b3 := SOk.of (Rk := fun R => withF 5 b5 R (withF 6 b6 R (withF 7 b7 R (withF 4 knownX R R)))) hm ok3 rfl (by decide) (fun R h => (withF_ok s5 h (withF_ok s6 h (withF_ok s7 h (withF_ok knownX_ok h h))))) h3
end Tb
end
section
set_option autoImplicit false
set_option maxRecDepth 100000
set_option linter.unusedVariables false
namespace Tb
open Go Hb
theorem bRem_mod3 (kd : IntKind) (a m : Nat) (k : KP) : bRem (.i kd (.ofNat a)) (.i kd (.ofNat m)) k = bRem (.i kd (.ofNat (a % m))) (.i kd (.ofNat m)) k := by
  show cnd (kEq kd kd) (iRem kd (.ofNat a) (.ofNat m) k) none = cnd (kEq kd kd) (iRem kd (.ofNat (a % m)) (.ofNat m) k) none
  rw [iRem_eq, iRem_eq]
  have : (Int.ofNat a).tmod (Int.ofNat m) = (Int.ofNat (a % m)).tmod (Int.ofNat m) := by
    show Int.ofNat (a % m) = Int.ofNat (a % m % m)
    rw [Nat.mod_mod]
  rw [this]
theorem e_b3j13 {p q : AV} (h : ∀ K, bRem p (.i .u8 10) K = bRem q (.i .u8 10) K) (R : Rec) (v2 : AV) : b3j13 R p v2 = b3j13 R q v2 := by
  unfold b3j13
  simp only [h]
  try rfl
theorem red3 (R : Rec) (nv1 : Nat) (bv2 : Bool) (s : ES) : b3 R [(.i .u8 (.ofNat nv1)), (.b bv2)] s = b3 R [(.i .u8 (.ofNat (nv1 % 10))), (.b bv2)] s := by
  have e := @e_b3j13 (.i .u8 (.ofNat nv1)) (.i .u8 (.ofNat (nv1 % 10))) (fun K => bRem_mod3 .u8 nv1 10 K)
  let B : Cur [] → Res := fun K95 => (callK (knownX R [] s) fun v96 s97 => (pUn .not v96 fun v98 => (eCond v98 (some (.ret (.b false) s97)) (K95 [] s97))))
  show jn [] (b3j13 R (.i .u8 (.ofNat nv1)) (.b bv2)) B = jn [] (b3j13 R (.i .u8 (.ofNat (nv1 % 10))) (.b bv2)) B
  rw [e]
end Tb
end
