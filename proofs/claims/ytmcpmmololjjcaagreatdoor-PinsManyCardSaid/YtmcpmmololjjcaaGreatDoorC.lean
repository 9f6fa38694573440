import Derived.Test.YtmcpmmololjjcaaGreatDoorS7
set_option autoImplicit false
set_option maxRecDepth 100000
set_option linter.unusedVariables false
namespace Tb
open Go Hb
noncomputable section
def c0 := fun R f s => eBod R 62 t0 [3,4,37,38] [3,4,6,7] f s
theorem sc0 : COk prg 0 62 c0 := COk.of (Rk := fun R => R) hm (by kernel_rfl) (fun R h => h) rfl
def c1 := fun R f s => eBod R 62 t1 [3,4,6,7] [] f s
theorem sc1 : COk prg 1 62 c1 := COk.of (Rk := fun R => R) hm (by kernel_rfl) (fun R h => h) rfl
def c2 (R : Rec) (f : Nat → AV) (s6 : ES) : Res := tmpsK [2,3,4,5,15] f (fun v1 v2 v3 v4 v5 => (some (.ex .normal (envL [(2,v1),(3,v2),(4,v3),(5,v4),(6,v5)]) s6)))
theorem hc2 : c2 = fun R f s => eBod (R) 73 t2 [2,3,4,5,15] [2,3,4,5,6] f s := by kernel_rfl
theorem sc2 : COk prg 2 73 c2 := COk.of (Rk := fun R => R) hm (by kernel_rfl) (fun R h => h) hc2
def c3j1 (R : Rec) (v3 : AV) : Cur [6] := fun v7 d8 s9 => (pLoad s9 false 1 v3 fun v10 => (pLit s9 9 1 1 [(.s [])] [(0,1,v7)] fun v11 s12 => (pAppend s12 9 1 v10 v11 fun v13 s14 => (pStore s14 1 v3 v13 fun v15 s16 => (List.casesOn d8 (some (.ex .normal (envL []) s16)) fun _ _ => none)))))
def c3q2 (R : Rec) (v5 : AV) (s35 : ES) (v4 : AV) (K17 : Cur [6]) : Res := (pSsl v5 none (some (.i .i64 1)) fun v38 => (pSsl v5 (some (.i .i64 1)) none fun v39 => (callK (R.f 41 [v38] s35) fun v40 s41 => (bAdd v40 v39 fun v42 => (pStore s41 1 v4 (.i .i64 2) fun v43 s44 => (K17 v42 [] s44))))))
def c3q3 (R : Rec) (v88 v103 : AV) (s104 : ES) (v4 : AV) (K17 : Cur [6]) (v5 v1 v2 : AV) : Res := (pPick v88 v103 (.b false) fun v107 => (eCond v107 (pStore s104 1 v4 (.i .i64 3) fun v108 s109 => (K17 v5 [] s109)) (pStore s104 1 v1 (.s []) fun v110 s111 => (pStore s111 1 v2 (.i .i64 100) fun v112 s113 => (some (.ex .ret (envL []) s113))))))
def c3q4 (R : Rec) (s72 : ES) (v4 : AV) (K17 : Cur [6]) (v5 v1 v2 v3 : AV) : Res := (pLoad s72 false 1 v4 fun v80 => (bGtr v80 (.i .i64 0) fun v81 => (jg (fun v82 s83 => (jg (fun v85 s86 => (pPick v81 v85 (.b false) fun v88 => (jg (fun v89 s90 => (jg (fun v93 s94 => (jg (fun v97 s98 => (jg (fun v100 s101 => (jg (fun v103 s104 => (c3q3 R v88 v103 s104 v4 K17 v5 v1 v2)) v88 true s101 fun K105 => (pUn .not v100 fun v106 => K105 v106 s101))) v88 true s98 fun K102 => (callK (R.f 44 [v93,v97] s98) K102))) v88 true s94 fun K99 => (K99 v5 s94))) v88 true s90 fun K95 => (pLsl s90 1 v89 (some (.i .i64 1)) none none fun v96 => K95 v96 s90))) v88 true s86 fun K91 => (pLoad s86 false 1 v3 fun v92 => K91 v92 s86)))) v81 true s83 fun K87 => (callK (R.f 43 [v82] s83) K87))) v81 true s72 fun K84 => (K84 v5 s72))))
def c3q5 (R : Rec) (v55 v5 v4 : AV) (K17 : Cur [6]) (v1 v2 v3 : AV) (s69 : ES) (v62 v68 : AV) : Res := (jg (fun v71 s72 => (pPick v55 v71 (.b false) fun v75 => (eCond v75 (callK (R.f 41 [v5] s72) fun v76 s77 => (pStore s77 1 v4 (.i .i64 3) fun v78 s79 => (K17 v76 [] s79))) (c3q4 R s72 v4 K17 v5 v1 v2 v3)))) v55 true s69 fun K73 => (pPick v62 (.b true) v68 fun v74 => K73 v74 s69))
def c3q6 (R : Rec) (s35 : ES) (v4 v5 : AV) (K17 : Cur [6]) (v1 v2 v3 : AV) : Res := (pLoad s35 false 1 v4 fun v45 => (bEql v45 (.i .i64 1) fun v46 => (jg (fun v47 s48 => (jg (fun v51 s52 => (pPick v46 (.b true) v51 fun v55 => (jg (fun v56 s57 => (jg (fun v59 s60 => (jg (fun v62 s63 => (jg (fun v65 s66 => (jg (fun v68 s69 => (c3q5 R v55 v5 v4 K17 v1 v2 v3 s69 v62 v68)) v62 false s66 fun K70 => (callK (R.f 39 [v65,(.i .i64 3),(.i .i64 3),(.fn (.func 42) [] [])] s66) K70))) v62 false s63 fun K67 => (K67 v5 s63))) v55 true s60 fun K64 => (K64 v59 s60))) v55 true s57 fun K61 => (callK (R.f 39 [v56,(.i .i64 2),(.i .i64 2),(.fn (.func 40) [] [])] s57) K61))) v55 true s52 fun K58 => (K58 v5 s52)))) v46 false s48 fun K53 => (bEql v47 (.i .i64 2) fun v54 => K53 v54 s48))) v46 false s35 fun K49 => (pLoad s35 false 1 v4 fun v50 => K49 v50 s35))))
def c3q7 (R : Rec) (s24 : ES) (v4 v5 : AV) (K17 : Cur [6]) (v1 v2 v3 : AV) : Res := (pLoad s24 false 1 v4 fun v29 => (bEql v29 (.i .i64 1) fun v30 => (jg (fun v31 s32 => (jg (fun v34 s35 => (pPick v30 v34 (.b false) fun v37 => (eCond v37 (c3q2 R v5 s35 v4 K17) (c3q6 R s35 v4 v5 K17 v1 v2 v3)))) v30 true s32 fun K36 => (callK (R.f 39 [v31,(.i .i64 4),(.i .i64 4),(.fn (.func 40) [] [])] s32) K36))) v30 true s24 fun K33 => (K33 v5 s24))))
def c3 (R : Rec) (f : Nat → AV) (s6 : ES) : Res := tmpsK [2,3,4,5,6] f (fun v1 v2 v3 v4 v5 => (jn [6] (c3j1 R v3) fun K17 => (pLoad s6 false 1 v4 fun v18 => (bEql v18 (.i .i64 0) fun v19 => (jg (fun v20 s21 => (jg (fun v23 s24 => (pPick v19 v23 (.b false) fun v26 => (eCond v26 (pStore s24 1 v4 (.i .i64 1) fun v27 s28 => (K17 v5 [] s28)) (c3q7 R s24 v4 v5 K17 v1 v2 v3)))) v19 true s21 fun K25 => (callK (R.f 39 [v20,(.i .i64 2),(.i .i64 3),(.fn (.func 40) [] [])] s21) K25))) v19 true s6 fun K22 => (K22 v5 s6))))))
theorem hc3 : c3 = fun R f s => eBod (R) 73 t3 [2,3,4,5,6] [] f s := by kernel_rfl
theorem sc3 : COk prg 3 73 c3 := COk.of (Rk := fun R => R) hm (by kernel_rfl) (fun R h => h) hc3
def c4 := fun R f s => eBod R 59 t4 [2,3,4,5,8,31,32] [2,3,4,5,8,9,10] f s
theorem sc4 : COk prg 4 59 c4 := COk.of (Rk := fun R => R) hm (by kernel_rfl) (fun R h => h) rfl
def c5 := fun R f s => eBod R 59 t5 [2,3,4,5,8,9,10] [] f s
theorem sc5 : COk prg 5 59 c5 := COk.of (Rk := fun R => R) hm (by kernel_rfl) (fun R h => h) rfl
def c6 := fun R f s => eBod R 16 t6 [3,9] [3,4] f s
theorem sc6 : COk prg 6 16 c6 := COk.of (Rk := fun R => R) hm (by kernel_rfl) (fun R h => h) rfl
def c7 := fun R f s => eBod R 16 t7 [3,4] [] f s
theorem sc7 : COk prg 7 16 c7 := COk.of (Rk := fun R => R) hm (by kernel_rfl) (fun R h => h) rfl
def c8 := fun R f s => eBod R 26 t8 [2,3,4,5,10,11] [2,3,4,5,6,7] f s
theorem sc8 : COk prg 8 26 c8 := COk.of (Rk := fun R => R) hm (by kernel_rfl) (fun R h => h) rfl
def c9 := fun R f s => eBod R 26 t9 [2,3,4,5,6,7] [] f s
theorem sc9 : COk prg 9 26 c9 := COk.of (Rk := fun R => R) hm (by kernel_rfl) (fun R h => h) rfl
def c10 := fun R f s => eBod R 45 t10 [1,2,25,26] [1,2,5,6] f s
theorem sc10 : COk prg 10 45 c10 := COk.of (Rk := fun R => R) hm (by kernel_rfl) (fun R h => h) rfl
def c11 := fun R f s => eBod R 45 t11 [1,2,5,6] [] f s
theorem sc11 : COk prg 11 45 c11 := COk.of (Rk := fun R => R) hm (by kernel_rfl) (fun R h => h) rfl
def c12 := fun R f s => eBod R 19 t12 [4,5,10,11] [4,5,6,7] f s
theorem sc12 : COk prg 12 19 c12 := COk.of (Rk := fun R => R) hm (by kernel_rfl) (fun R h => h) rfl
def c13 := fun R f s => eBod R 19 t13 [4,5,6,7] [] f s
theorem sc13 : COk prg 13 19 c13 := COk.of (Rk := fun R => R) hm (by kernel_rfl) (fun R h => h) rfl
def c14 := fun R f s => eBod R 53 t14 [2,3,10] [2,3,4] f s
theorem sc14 : COk prg 14 53 c14 := COk.of (Rk := fun R => R) hm (by kernel_rfl) (fun R h => h) rfl
def c15 := fun R f s => eBod R 53 t15 [2,3,4] [] f s
theorem sc15 : COk prg 15 53 c15 := COk.of (Rk := fun R => R) hm (by kernel_rfl) (fun R h => h) rfl
def c16 (R : Rec) (f : Nat → AV) (s3 : ES) : Res := tmpsK [2,7] f (fun v1 v2 => (some (.ex .normal (envL [(2,v1),(5,v2)]) s3)))
theorem hc16 : c16 = fun R f s => eBod (R) 13 t16 [2,7] [2,5] f s := by kernel_rfl
theorem sc16 : COk prg 16 13 c16 := COk.of (Rk := fun R => R) hm (by kernel_rfl) (fun R h => h) hc16
def c17 (R : Rec) (f : Nat → AV) (s3 : ES) : Res := tmpsK [2,5] f (fun v1 v2 => (pLoad s3 false 1 v1 fun v4 => (pLit s3 3 1 1 [(.i .i64 0)] [(0,1,v2)] fun v5 s6 => (pAppend s6 3 1 v4 v5 fun v7 s8 => (pStore s8 1 v1 v7 fun v9 s10 => (some (.ex .normal (envL []) s10)))))))
theorem hc17 : c17 = fun R f s => eBod (R) 13 t17 [2,5] [] f s := by kernel_rfl
theorem sc17 : COk prg 17 13 c17 := COk.of (Rk := fun R => R) hm (by kernel_rfl) (fun R h => h) hc17
def c18 := fun R f s => eBod R 51 t18 [2,8,27] [2,8,10] f s
theorem sc18 : COk prg 18 51 c18 := COk.of (Rk := fun R => R) hm (by kernel_rfl) (fun R h => h) rfl
def c19 := fun R f s => eBod R 51 t19 [2,8,10] [] f s
theorem sc19 : COk prg 19 51 c19 := COk.of (Rk := fun R => R) hm (by kernel_rfl) (fun R h => h) rfl
def c20 := fun R f s => eBod R 22 t20 [4,5,9] [4,5,6] f s
theorem sc20 : COk prg 20 22 c20 := COk.of (Rk := fun R => R) hm (by kernel_rfl) (fun R h => h) rfl
def c21 := fun R f s => eBod R 22 t21 [4,5,6] [] f s
theorem sc21 : COk prg 21 22 c21 := COk.of (Rk := fun R => R) hm (by kernel_rfl) (fun R h => h) rfl
def c22 := fun R f s => eBod R 115 t22 [16,106] [16,17] f s
theorem sc22 : COk prg 22 115 c22 := COk.of (Rk := fun R => R) hm (by kernel_rfl) (fun R h => h) rfl
def c23 := fun R f s => eBod R 115 t23 [16,17] [] f s
theorem sc23 : COk prg 23 115 c23 := COk.of (Rk := fun R => R) hm (by kernel_rfl) (fun R h => h) rfl
def c24 := fun R f s => eBod R 128 t24 [2,3,4,5,6,29] [2,3,4,5,6,8] f s
theorem sc24 : COk prg 24 128 c24 := COk.of (Rk := fun R => R) hm (by kernel_rfl) (fun R h => h) rfl
def c25 := fun R f s => eBod R 128 t25 [2,3,4,5,6,8] [] f s
theorem sc25 : COk prg 25 128 c25 := COk.of (Rk := fun R => R) hm (by kernel_rfl) (fun R h => h) rfl
def c26 (R : Rec) (f : Nat → AV) (s3 : ES) : Res := tmpsK [2,7] f (fun v1 v2 => (some (.ex .normal (envL [(2,v1),(5,v2)]) s3)))
theorem hc26 : c26 = fun R f s => eBod (R) 13 t26 [2,7] [2,5] f s := by kernel_rfl
theorem sc26 : COk prg 26 13 c26 := COk.of (Rk := fun R => R) hm (by kernel_rfl) (fun R h => h) hc26
def c27 (R : Rec) (f : Nat → AV) (s3 : ES) : Res := tmpsK [2,5] f (fun v1 v2 => (pLoad s3 false 1 v1 fun v4 => (pLit s3 9 1 1 [(.s [])] [(0,1,v2)] fun v5 s6 => (pAppend s6 9 1 v4 v5 fun v7 s8 => (pStore s8 1 v1 v7 fun v9 s10 => (some (.ex .normal (envL []) s10)))))))
theorem hc27 : c27 = fun R f s => eBod (R) 13 t27 [2,5] [] f s := by kernel_rfl
theorem sc27 : COk prg 27 13 c27 := COk.of (Rk := fun R => R) hm (by kernel_rfl) (fun R h => h) hc27
def c28 := fun R f s => eBod R 23 t28 [1,4,5,10,11] [1,4,5,6,7] f s
theorem sc28 : COk prg 28 23 c28 := COk.of (Rk := fun R => R) hm (by kernel_rfl) (fun R h => h) rfl
def c29 := fun R f s => eBod R 23 t29 [1,4,5,6,7] [] f s
theorem sc29 : COk prg 29 23 c29 := COk.of (Rk := fun R => R) hm (by kernel_rfl) (fun R h => h) rfl
def c30 := fun R f s => eBod R 42 t30 [2,4,5,6,37] [2,4,5,6,9] f s
theorem sc30 : COk prg 30 42 c30 := COk.of (Rk := fun R => R) hm (by kernel_rfl) (fun R h => h) rfl
def c31 := fun R f s => eBod R 42 t31 [2,4,5,6,9] [] f s
theorem sc31 : COk prg 31 42 c31 := COk.of (Rk := fun R => R) hm (by kernel_rfl) (fun R h => h) rfl
def c32 (R : Rec) (f : Nat → AV) (s4 : ES) : Res := tmpsK [2,3,7] f (fun v1 v2 v3 => (pRow s4 246 [(.i .i64 0),(.i .i64 0),(.ns),(.s []),(.ns)] fun v5 s6 => (pStore s6 5 v5 v3 fun v7 s8 => (some (.ex .normal (envL [(2,v1),(3,v2),(4,v5)]) s8)))))
theorem hc32 : c32 = fun R f s => eBod (R) 17 t32 [2,3,7] [2,3,4] f s := by kernel_rfl
theorem sc32 : COk prg 32 17 c32 := COk.of (Rk := fun R => R) hm (by kernel_rfl) (fun R h => h) hc32
def c33 (R : Rec) (f : Nat → AV) (s4 : ES) : Res := tmpsK [2,3,4] f (fun v1 v2 v3 => (pLoad s4 false 1 v2 fun v5 => (bAdd v5 (.i .i64 1) fun v6 => (pStore s4 1 v2 v6 fun v7 s8 => (pLoad s8 false 1 v2 fun v9 => (bGtr v9 (.i .i64 400) fun v10 => (jg (fun v11 s12 => (jg (fun v15 s16 => (jg (fun v18 s19 => (pPick v10 (.b true) v18 fun v22 => (eCond v22 (pStore s19 1 v1 (.b false) fun v23 s24 => (some (.ex .ret (envL []) s24))) (some (.ex .normal (envL []) s19))))) v10 false s16 fun K20 => (pUn .not v15 fun v21 => K20 v21 s16))) v10 false s12 fun K17 => (callK (R.f 358 [v11] s12) K17))) v10 false s8 fun K13 => (pLoad s8 true 5 v3 fun v14 => K13 v14 s8))))))))
theorem hc33 : c33 = fun R f s => eBod (R) 17 t33 [2,3,4] [] f s := by kernel_rfl
theorem sc33 : COk prg 33 17 c33 := COk.of (Rk := fun R => R) hm (by kernel_rfl) (fun R h => h) hc33
def c34 := fun R f s => eBod R 13 t34 [2,7] [2,5] f s
theorem sc34 : COk prg 34 13 c34 := COk.of (Rk := fun R => R) hm (by kernel_rfl) (fun R h => h) rfl
def c35 := fun R f s => eBod R 13 t35 [2,5] [] f s
theorem sc35 : COk prg 35 13 c35 := COk.of (Rk := fun R => R) hm (by kernel_rfl) (fun R h => h) rfl
def c36 (R : Rec) (f : Nat → AV) (s4 : ES) : Res := tmpsK [3,7,22] f (fun v1 v2 v3 => (some (.ex .normal (envL [(3,v1),(7,v2),(8,v3)]) s4)))
theorem hc36 : c36 = fun R f s => eBod (R) 45 t36 [3,7,22] [3,7,8] f s := by kernel_rfl
theorem sc36 : COk prg 36 45 c36 := COk.of (Rk := fun R => R) hm (by kernel_rfl) (fun R h => h) hc36
def c37 (R : Rec) (f : Nat → AV) (s4 : ES) : Res := tmpsK [3,7,8] f (fun v1 v2 v3 => (pLoad s4 false 1 v2 fun v5 => (pLoad s4 false 1 v1 fun v6 => (callK (R.f 395 [v6,v3] s4) fun v7 s8 => (pLoad s8 false 1 v2 fun v12 => (cond (avEq v12 v5) (pBin .or v5 v7 fun v9 => (pStore s8 1 v2 v9 fun v10 s11 => (some (.ex .normal (envL []) s11)))) none))))))
theorem hc37 : c37 = fun R f s => eBod (R) 45 t37 [3,7,8] [] f s := by kernel_rfl
theorem sc37 : COk prg 37 45 c37 := COk.of (Rk := fun R => R) hm (by kernel_rfl) (fun R h => h) hc37
def c38 (R : Rec) (f : Nat → AV) (s5 : ES) : Res := tmpsK [3,5,9,30] f (fun v1 v2 v3 v4 => (some (.ex .normal (envL [(3,v1),(5,v2),(9,v3),(10,v4)]) s5)))
theorem hc38 : c38 = fun R f s => eBod (R) 45 t38 [3,5,9,30] [3,5,9,10] f s := by kernel_rfl
theorem sc38 : COk prg 38 45 c38 := COk.of (Rk := fun R => R) hm (by kernel_rfl) (fun R h => h) hc38
def c39q1 (R : Rec) (s14 : ES) (v3 v4 : AV) : Res := (pLoad s14 false 1 v3 fun v15 => (pBin .shl (.i .u64 1) v4 fun v16 => (pBin .or v15 v16 fun v17 => (pStore s14 1 v3 v17 fun v18 s19 => (some (.ex .normal (envL []) s19))))))
def c39 (R : Rec) (f : Nat → AV) (s5 : ES) : Res := tmpsK [3,5,9,10] f (fun v1 v2 v3 v4 => (pLoad s5 false 1 v1 fun v6 => (pNil s5 v6 fun v7 => (pFadr s5 3 v7 fun v8 => (pLoad s5 false 1 v8 fun v9 => (pIadrS s5 1 v9 v4 fun v10 => (pLoad s5 false 1 v10 fun v11 => (pLoad s5 false 1 v2 fun v12 => (callK (R.f 392 [v11,v12] s5) fun v13 s14 => (eCond v13 (c39q1 R s14 v3 v4) (some (.ex .normal (envL []) s14))))))))))))
theorem hc39 : c39 = fun R f s => eBod (R) 45 t39 [3,5,9,10] [] f s := by kernel_rfl
theorem sc39 : COk prg 39 45 c39 := COk.of (Rk := fun R => R) hm (by kernel_rfl) (fun R h => h) hc39
def c40 := fun R f s => eBod R 13 t40 [2,7] [2,5] f s
theorem sc40 : COk prg 40 13 c40 := COk.of (Rk := fun R => R) hm (by kernel_rfl) (fun R h => h) rfl
def c41 := fun R f s => eBod R 13 t41 [2,5] [] f s
theorem sc41 : COk prg 41 13 c41 := COk.of (Rk := fun R => R) hm (by kernel_rfl) (fun R h => h) rfl
def c42 (R : Rec) (f : Nat → AV) (s3 : ES) : Res := tmpsK [3,8] f (fun v1 v2 => (pRow s3 560 [(.i .i32 0),(.i .i32 0)] fun v4 s5 => (pStore s5 2 v4 v2 fun v6 s7 => (some (.ex .normal (envL [(3,v1),(4,v4)]) s7)))))
theorem hc42 : c42 = fun R f s => eBod (R) 19 t42 [3,8] [3,4] f s := by kernel_rfl
theorem sc42 : COk prg 42 19 c42 := COk.of (Rk := fun R => R) hm (by kernel_rfl) (fun R h => h) hc42
def c43 (R : Rec) (f : Nat → AV) (s3 : ES) : Res := tmpsK [3,4] f (fun v1 v2 => (pLoad s3 false 1 v1 fun v4 => (pFadr s3 0 v2 fun v5 => (pLoad s3 false 1 v5 fun v6 => (pFadr s3 1 v2 fun v7 => (pLoad s3 false 1 v7 fun v8 => (bSub v8 (.i .i32 1) fun v9 => (pBuild [(.i .i32 0),(.i .i32 0)] [(0,1,v6),(1,1,v9)] fun v10 => (pLit s3 423 2 1 [(.i .i32 0),(.i .i32 0)] [(0,2,v10)] fun v11 s12 => (pAppend s12 423 2 v4 v11 fun v13 s14 => (pStore s14 1 v1 v13 fun v15 s16 => (some (.ex .normal (envL []) s16)))))))))))))
theorem hc43 : c43 = fun R f s => eBod (R) 19 t43 [3,4] [] f s := by kernel_rfl
theorem sc43 : COk prg 43 19 c43 := COk.of (Rk := fun R => R) hm (by kernel_rfl) (fun R h => h) hc43
end
end Tb
