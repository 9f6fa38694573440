/- A layer for programs of small data: values, stores, code, and an evaluator of code that the kernel runs; part 12. -/
import Derived.Test.YtkmpehlhplhnhaaGreatDoorH11

section
set_option linter.unusedVariables false
set_option linter.unusedSimpArgs false
set_option linter.constructorNameAsVariable false
set_option autoImplicit false
set_option maxRecDepth 100000
set_option linter.unusedVariables false
namespace Hb
open Go Hb
noncomputable def B_right (I : Ids) (R : Rec) (args : List AV) (s2 : ES) : Res := argsK [0] args (fun v1 => (pBox s2 (I.t 0) v1 fun v3 s4 => (pFadr s4 0 v3 fun v5 => (pLoad s4 false 1 v5 fun v6 => (bGeq v6 (.i .i32 0) fun v7 => (jv (fun v8 s9 => (jv (fun v12 s13 => (jv (fun v16 s17 => (jv (fun v20 s21 => (jv (fun v24 s25 => (pPick v7 v24 (.b false) fun v28 => (jv (fun v29 s30 => (jv (fun v33 s34 => (jv (fun v37 s38 => (pPick v28 v37 (.b false) fun v41 => (some (.ret v41 s38)))) fun K39 => eGuard v28 true (bLeq v33 (.i .i32 1114111) fun v40 => K39 v40 s34) (K39 (.tup []) s34))) fun K35 => eGuard v28 true (pLoad s30 false 1 v29 fun v36 => K35 v36 s30) (K35 (.tup []) s30))) fun K31 => eGuard v28 true (pFadr s25 1 v3 fun v32 => K31 v32 s25) (K31 (.tup []) s25)))) fun K26 => eGuard v7 true (bLeq v12 v20 fun v27 => K26 v27 s21) (K26 (.tup []) s21))) fun K22 => eGuard v7 true (pLoad s17 false 1 v16 fun v23 => K22 v23 s17) (K22 (.tup []) s17))) fun K18 => eGuard v7 true (pFadr s13 1 v3 fun v19 => K18 v19 s13) (K18 (.tup []) s13))) fun K14 => eGuard v7 true (pLoad s9 false 1 v8 fun v15 => K14 v15 s9) (K14 (.tup []) s9))) fun K10 => eGuard v7 true (pFadr s4 0 v3 fun v11 => K10 v11 s4) (K10 (.tup []) s4)))))))
noncomputable def B_Has1 (I : Ids) (R : Rec) (args : List AV) (s3 : ES) : Res := argsK [0,1] args (fun v1 v2 => (pBox s3 (I.t 0) v1 fun v4 s5 => (pLoad s5 true 2 v4 fun v6 => (callK (R.f (I.f 0) [v6] s5) fun v7 s8 => (jv (fun v9 s10 => (jv (fun v13 s14 => (jv (fun v17 s18 => (jv (fun v21 s22 => (pPick v7 v21 (.b false) fun v25 => (jv (fun v26 s27 => (jv (fun v30 s31 => (jv (fun v34 s35 => (jv (fun v38 s39 => (pPick v25 v38 (.b false) fun v42 => (some (.ret v42 s39)))) fun K40 => eGuard v25 true (bLeq v26 v34 fun v41 => K40 v41 s35) (K40 (.tup []) s35))) fun K36 => eGuard v25 true (pLoad s31 false 1 v30 fun v37 => K36 v37 s31) (K36 (.tup []) s31))) fun K32 => eGuard v25 true (pFadr s27 1 v4 fun v33 => K32 v33 s27) (K32 (.tup []) s27))) fun K28 => eGuard v25 true (pLoad s22 false 1 v2 fun v29 => K28 v29 s22) (K28 (.tup []) s22)))) fun K23 => eGuard v7 true (bGeq v9 v17 fun v24 => K23 v24 s18) (K23 (.tup []) s18))) fun K19 => eGuard v7 true (pLoad s14 false 1 v13 fun v20 => K19 v20 s14) (K19 (.tup []) s14))) fun K15 => eGuard v7 true (pFadr s10 0 v4 fun v16 => K15 v16 s10) (K15 (.tup []) s10))) fun K11 => eGuard v7 true (pLoad s8 false 1 v2 fun v12 => K11 v12 s8) (K11 (.tup []) s8))))))
noncomputable def B_Has (I : Ids) (R : Rec) (args : List AV) (s3 : ES) : Res := argsK [0,1] args (fun v1 v2 => (pBox s3 (I.t 1) v2 fun v4 s5 => (callK (R.f (I.f 1) [v1,(.fn (.func (I.f 2)) [] [v4])] s5) fun v6 s7 => (some (.ret v6 s7)))))
noncomputable def B_CFR (I : Ids) (R : Rec) (args : List AV) (s3 : ES) : Res := argsK [0,1] args (fun v1 v2 => (callK (R.f (I.f 3) [v1,v2] s3) fun v4 s5 => (bGeq v4 (.i .i64 0) fun v6 => (some (.ret v6 s5)))))
noncomputable def B_IFRj1 (I : Ids) (R : Rec) : Cur [] := fun d4 s5 => (eLeave d4 s5 fun s6 => (some (.ret (.i .i64 (-1)) s6)))
noncomputable def B_IFRj2 (I : Ids) (R : Rec) (v10 : AV) (K9 : Cur [8]) : Cur [] := fun d16 s17 => (bAdd v10 (.i .i64 1) fun v18 => (K9 v18 d16 s17))
noncomputable def B_IFRj3 (I : Ids) (R : Rec) (v10 : AV) (K9 : Cur [8]) (v1 : AV) (v2 : AV) : Cur [] := fun d14 s15 => (jn [] (B_IFRj2 I R v10 K9) fun K19 => (pIadrS s15 2 v1 v10 fun v20 => (pLoad s15 true 2 v20 fun v21 => (eCallV R.g R.b v2 [v21] s15 fun v22 s23 => (eCond v22 (eLeave d14 s23 fun s24 => (some (.ret v10 s24))) (K19 d14 s23))))))
noncomputable def B_IFRl4 (I : Ids) (R : Rec) (v8 : AV) (v1 : AV) (v2 : AV) (K7 : Cur []) : Cur [8] → Cur [8] := fun K9 v10 d11 s12 => (bLss v10 v8 fun v13 => (jn [] (B_IFRj3 I R v10 K9 v1 v2) fun K25 => (eCond v13 (K25 d11 s12) (K7 d11 s12))))
noncomputable def B_IFR (I : Ids) (R : Rec) (args : List AV) (s3 : ES) : Res := argsK [0,1] args (fun v1 v2 => (jn [] (B_IFRj1 I R) fun K7 => (pLen false v1 fun v8 => (lp [8] 30000 (B_IFRl4 I R v8 v1 v2 K7) (.i .i64 0) [] s3))))
noncomputable def B_mstepj1 (I : Ids) (R : Rec) (v4 : AV) (v2 : AV) : Cur [] := fun d8 s9 => (pFadr s9 0 v4 fun v10 => (pLoad s9 false 1 v10 fun v11 => (pIadrS s9 1 v11 v2 fun v12 => (pLoad s9 false 1 v12 fun v13 => (bAdd v2 (.i .i64 1) fun v14 => (eLeave d8 s9 fun s15 => (some (.ret (.tup [v13,v14,(.b true)]) s15))))))))
noncomputable def B_mstepj2 (I : Ids) (R : Rec) (v4 : AV) (v2 : AV) : Cur [] := fun d6 s7 => (jn [] (B_mstepj1 I R v4 v2) fun K16 => (pFadr s7 0 v4 fun v17 => (pLoad s7 false 1 v17 fun v18 => (pLen false v18 fun v19 => (bEql v2 v19 fun v20 => (eCond v20 (eLeave d6 s7 fun s21 => (some (.ret (.tup [(.i .i32 0),(.i .i64 0),(.b false)]) s21))) (K16 d6 s7)))))))
noncomputable def B_mstepj3 (I : Ids) (R : Rec) (v4 : AV) (v2 : AV) : Cur [] := fun d25 s26 => (pFadr s26 0 v4 fun v27 => (pLoad s26 false 1 v27 fun v28 => (bSub v2 (.i .i64 1) fun v29 => (pIadrS s26 1 v28 v29 fun v30 => (pLoad s26 false 1 v30 fun v31 => (bSub v2 (.i .i64 1) fun v32 => (eLeave d25 s26 fun s33 => (some (.ret (.tup [v31,v32,(.b true)]) s33)))))))))
noncomputable def B_mstep (I : Ids) (R : Rec) (args : List AV) (s3 : ES) : Res := argsK [0,1] args (fun v1 v2 => (pBox s3 (I.t 2) v1 fun v4 s5 => (jn [] (B_mstepj2 I R v4 v2) fun K22 => (pFadr s5 1 v4 fun v23 => (pLoad s5 false 1 v23 fun v24 => (eCond v24 (jn [] (B_mstepj3 I R v4 v2) fun K34 => (bEql v2 (.i .i64 0) fun v35 => (eCond v35 (some (.ret (.tup [(.i .i32 0),(.i .i64 0),(.b false)]) s5)) (K34 [] s5)))) (K22 [] s5)))))))
noncomputable def B_mnone (I : Ids) (R : Rec) (args : List AV) (s2 : ES) : Res := argsK [0] args (fun v1 => (pBox s2 (I.t 2) v1 fun v3 s4 => (pFadr s4 0 v3 fun v5 => (pLoad s4 false 1 v5 fun v6 => (pLen false v6 fun v7 => (bAdd v7 (.i .i64 1) fun v8 => (pMk s4 (I.t 3) 1 [(.b false)] v8 v8 fun v9 s10 => (some (.ret v9 s10)))))))))
noncomputable def B_monej1 (I : Ids) (R : Rec) (v12 : AV) : Cur [] := fun d16 s17 => (pLoad s17 false 1 v12 fun v18 => (eLeave d16 s17 fun s19 => (some (.ret v18 s19))))
noncomputable def B_mone (I : Ids) (R : Rec) (args : List AV) (s4 : ES) : Res := argsK [0,1,2] args (fun v1 v2 v3 => (pBox s4 (I.t 2) v1 fun v5 s6 => (pBox s6 (I.t 4) v2 fun v7 s8 => (pLoad s8 true 2 v5 fun v9 => (callK (R.f (I.f 4) [v9] s8) fun v10 s11 => (pRow s11 (I.t 5) [(.ns)] fun v12 s13 => (pStore s13 1 v12 v10 fun v14 s15 => (jn [] (B_monej1 I R v12) fun K20 => (callK (R.f (I.f 5) [v3] s15) fun v21 s22 => (pRange R.h 34 v21 [16] (envL [(3,v5),(4,v7),(7,v12)]) (I.x 0) (I.x 1) [] s22 (fun d23 s24 => (K20 d23 s24)) fun e25 d26 s27 => (xsel 0 e25 (K20 d26 s27) fun e28 => (xfin e28 (eLeave d26 s27 fun s29 => (some (.ret (.ns) s29)))))))))))))))
noncomputable def C0_mone (I : Ids) (R : Rec) (f : Nat → AV) (s5 : ES) : Res := tmpsK [3,4,7,16] f (fun v1 v2 v3 v4 => (some (.ex .normal (envL [(3,v1),(4,v2),(7,v3),(8,v4)]) s5)))
noncomputable def C1_mone (I : Ids) (R : Rec) (f : Nat → AV) (s5 : ES) : Res := tmpsK [3,4,7,8] f (fun v1 v2 v3 v4 => (pLoad s5 true 2 v1 fun v6 => (callK (R.f (I.f 6) [v6,v4] s5) fun v7 s8 => (pExt v7 0 fun v9 => (pExt v7 1 fun v10 => (pExt v7 2 fun v11 => (jv (fun v12 s13 => (jv (fun v16 s17 => (jv (fun v19 s20 => (pPick v11 v19 (.b false) fun v22 => (eCond v22 (pLoad s20 false 1 v3 fun v23 => (pIadrS s20 1 v23 v10 fun v24 => (pStore s20 1 v24 (.b true) fun v25 s26 => (some (.ex .normal (envL []) s26))))) (some (.ex .normal (envL []) s20))))) fun K21 => eGuard v11 true (callK (R.f (I.f 7) [v12,v16] s17) K21) (K21 (.tup []) s17))) fun K18 => eGuard v11 true (K18 v9 s13) (K18 (.tup []) s13))) fun K14 => eGuard v11 true (pLoad s8 false 1 v2 fun v15 => K14 v15 s8) (K14 (.tup []) s8))))))))
noncomputable def B_mall (I : Ids) (R : Rec) (args : List AV) (s2 : ES) : Res := argsK [0] args (fun v1 => (pBox s2 (I.t 5) v1 fun v3 s4 => (some (.ret (.fn (.func (I.f 8)) [] [v3]) s4))))
noncomputable def B_mall1j1 (I : Ids) (R : Rec) (v7 : AV) (K6 : Cur [7]) : Cur [] := fun d13 s14 => (bAdd v7 (.i .i64 1) fun v15 => (K6 v15 d13 s14))
noncomputable def B_mall1j2 (I : Ids) (R : Rec) (v7 : AV) (K6 : Cur [7]) (v4 : AV) (v1 : AV) : Cur [] := fun d11 s12 => (jn [] (B_mall1j1 I R v7 K6) fun K16 => (pIadrS s12 1 v4 v7 fun v17 => (pLoad s12 false 1 v17 fun v18 => (jv (fun v19 s20 => (jv (fun v22 s23 => (jv (fun v25 s26 => (jv (fun v28 s29 => (pPick v18 v28 (.b false) fun v32 => (eCond v32 (eLeave d11 s29 fun s33 => (some (.ret (.tup []) s33))) (K16 d11 s29)))) fun K30 => eGuard v18 true (pUn .not v25 fun v31 => K30 v31 s26) (K30 (.tup []) s26))) fun K27 => eGuard v18 true (eCallV R.g R.b v19 [v22] s23 K27) (K27 (.tup []) s23))) fun K24 => eGuard v18 true (K24 v7 s20) (K24 (.tup []) s20))) fun K21 => eGuard v18 true (K21 v1 s12) (K21 (.tup []) s12)))))
noncomputable def B_mall1l3 (I : Ids) (R : Rec) (v5 : AV) (v4 : AV) (v1 : AV) : Cur [7] → Cur [7] := fun K6 v7 d8 s9 => (bLss v7 v5 fun v10 => (jn [] (B_mall1j2 I R v7 K6 v4 v1) fun K34 => (eCond v10 (K34 d8 s9) (eLeave d8 s9 fun s35 => (some (.ret (.tup []) s35))))))
noncomputable def B_mall1 (I : Ids) (R : Rec) (args : List AV) (s3 : ES) : Res := argsK [0,1] args (fun v1 v2 => (pLoad s3 false 1 v2 fun v4 => (pLen false v4 fun v5 => (lp [7] 30000 (B_mall1l3 I R v5 v4 v1) (.i .i64 0) [] s3))))
noncomputable def B_mwalkj1 (I : Ids) (R : Rec) (v5 : AV) : Cur [] := fun d9 s10 => (pLoad s10 true 2 v5 fun v11 => (callK (R.f (I.f 4) [v11] s10) fun v12 s13 => (eLeave d9 s13 fun s14 => (some (.ret v12 s14)))))
noncomputable def B_mwalkj2 (I : Ids) (R : Rec) (v5 : AV) (v36 : AV) (v34 : AV) (v3 : AV) : Cur [] := fun d42 s43 => (pLoad s43 true 2 v5 fun v44 => (pLoad s43 true 5 v36 fun v45 => (pLoad s43 true 2 v5 fun v46 => (pLoad s43 true 5 v34 fun v47 => (callK (R.f (I.f 9) [v46,v47,v3] s43) fun v48 s49 => (pLoad s49 true 5 v36 fun v54 => (cond (avEq v54 v45) (pLoad s49 true 2 v5 fun v53 => (cond (avEq v53 v44) (callK (R.f (I.f 9) [v44,v45,v48] s49) fun v50 s51 => (eLeave d42 s51 fun s52 => (some (.ret v50 s52)))) none)) none)))))))
noncomputable def B_mwalk (I : Ids) (R : Rec) (args : List AV) (s4 : ES) : Res := argsK [0,1,2] args (fun v1 v2 v3 => (pBox s4 (I.t 2) v1 fun v5 s6 => (pBox s6 (I.t 6) v2 fun v7 s8 => (jn [] (B_mwalkj1 I R v5) fun K15 => (pFadr s8 0 v7 fun v16 => (pLoad s8 false 1 v16 fun v17 => (bEql v17 (.i .i64 1) fun v18 => (eCond v18 (pLoad s8 true 2 v5 fun v19 => (pFadr s8 2 v7 fun v20 => (pLoad s8 false 1 v20 fun v21 => (callK (R.f (I.f 10) [v19,v21,v3] s8) fun v22 s23 => (some (.ret v22 s23)))))) (bEql v17 (.i .i64 3) fun v24 => (eCond v24 (some (.ret v3 s8)) (bEql v17 (.i .i64 4) fun v25 => (eCond v25 (pFadr s8 4 v7 fun v26 => (pLoad s8 false 1 v26 fun v27 => (pIadrS s8 5 v27 (.i .i64 0) fun v28 => (pLoad s8 true 5 v28 fun v29 => (pFadr s8 4 v7 fun v30 => (pLoad s8 false 1 v30 fun v31 => (pIadrS s8 5 v31 (.i .i64 1) fun v32 => (pLoad s8 true 5 v32 fun v33 => (pRow s8 (I.t 6) [(.i .i64 0),(.i .i64 0),(.ns),(.s []),(.ns)] fun v34 s35 => (pLoad s35 true 5 v32 fun v83 => (cond (avEq v83 v33) (pIadrS s35 5 v31 (.i .i64 1) fun v82 => (cond (avEq v82 v32) (pLoad s35 false 1 v30 fun v81 => (cond (avEq v81 v31) (pFadr s35 4 v7 fun v80 => (cond (avEq v80 v30) (pLoad s35 true 5 v28 fun v79 => (cond (avEq v79 v29) (pIadrS s35 5 v27 (.i .i64 0) fun v78 => (cond (avEq v78 v28) (pLoad s35 false 1 v26 fun v77 => (cond (avEq v77 v27) (pFadr s35 4 v7 fun v76 => (cond (avEq v76 v26) (pRow s35 (I.t 6) [(.i .i64 0),(.i .i64 0),(.ns),(.s []),(.ns)] fun v36 s37 => (pLoad s37 true 5 v32 fun v75 => (cond (avEq v75 v33) (pIadrS s37 5 v31 (.i .i64 1) fun v74 => (cond (avEq v74 v32) (pLoad s37 false 1 v30 fun v73 => (cond (avEq v73 v31) (pFadr s37 4 v7 fun v72 => (cond (avEq v72 v30) (pLoad s37 true 5 v28 fun v71 => (cond (avEq v71 v29) (pIadrS s37 5 v27 (.i .i64 0) fun v70 => (cond (avEq v70 v28) (pLoad s37 false 1 v26 fun v69 => (cond (avEq v69 v27) (pFadr s37 4 v7 fun v68 => (cond (avEq v68 v26) (pStore s37 5 v34 v29 fun v38 s39 => (pLoad s39 true 5 v32 fun v67 => (cond (avEq v67 v33) (pIadrS s39 5 v31 (.i .i64 1) fun v66 => (cond (avEq v66 v32) (pLoad s39 false 1 v30 fun v65 => (cond (avEq v65 v31) (pFadr s39 4 v7 fun v64 => (cond (avEq v64 v30) (pStore s39 5 v36 v33 fun v40 s41 => (jn [] (B_mwalkj2 I R v5 v36 v34 v3) fun K55 => (pFadr s41 1 v5 fun v56 => (pLoad s41 false 1 v56 fun v57 => (eCond v57 (pLoad s41 true 5 v36 fun v58 => (pLoad s41 true 5 v34 fun v59 => (pStore s41 5 v34 v58 fun v60 s61 => (pStore s61 5 v36 v59 fun v62 s63 => (K55 [] s63))))) (K55 [] s41)))))) none)) none)) none)) none))) none)) none)) none)) none)) none)) none)) none)) none))) none)) none)) none)) none)) none)) none)) none)) none))))))))))) (bEql v17 (.i .i64 5) fun v84 => (eCond v84 (pLoad s8 true 2 v5 fun v85 => (pFadr s8 4 v7 fun v86 => (pLoad s8 false 1 v86 fun v87 => (pIadrS s8 5 v87 (.i .i64 0) fun v88 => (pLoad s8 true 5 v88 fun v89 => (pLoad s8 true 2 v5 fun v90 => (pFadr s8 4 v7 fun v91 => (pLoad s8 false 1 v91 fun v92 => (pIadrS s8 5 v92 (.i .i64 1) fun v93 => (pLoad s8 true 5 v93 fun v94 => (callK (R.f (I.f 9) [v85,v89,v3] s8) fun v95 s96 => (pLoad s96 true 5 v93 fun v105 => (cond (avEq v105 v94) (pIadrS s96 5 v92 (.i .i64 1) fun v104 => (cond (avEq v104 v93) (pLoad s96 false 1 v91 fun v103 => (cond (avEq v103 v92) (pFadr s96 4 v7 fun v102 => (cond (avEq v102 v91) (pLoad s96 true 2 v5 fun v101 => (cond (avEq v101 v90) (callK (R.f (I.f 9) [v90,v94,v3] s96) fun v97 s98 => (callK (R.f (I.f 11) [v95,v97] s98) fun v99 s100 => (some (.ret v99 s100)))) none)) none)) none)) none)) none))))))))))))) (bEql v17 (.i .i64 6) fun v106 => (eCond v106 (pLoad s8 true 2 v5 fun v107 => (pFadr s8 4 v7 fun v108 => (pLoad s8 false 1 v108 fun v109 => (pIadrS s8 5 v109 (.i .i64 0) fun v110 => (pLoad s8 true 5 v110 fun v111 => (callK (R.f (I.f 12) [v107,v111,v3] s8) fun v112 s113 => (some (.ret v112 s113)))))))) (bEql v17 (.i .i64 7) fun v114 => (eCond v114 (pLoad s8 true 2 v5 fun v115 => (pFadr s8 4 v7 fun v116 => (pLoad s8 false 1 v116 fun v117 => (pIadrS s8 5 v117 (.i .i64 0) fun v118 => (pLoad s8 true 5 v118 fun v119 => (pLoad s8 true 2 v5 fun v120 => (pFadr s8 4 v7 fun v121 => (pLoad s8 false 1 v121 fun v122 => (pIadrS s8 5 v122 (.i .i64 0) fun v123 => (pLoad s8 true 5 v123 fun v124 => (callK (R.f (I.f 9) [v120,v124,v3] s8) fun v125 s126 => (pLoad s126 true 5 v118 fun v133 => (cond (avEq v133 v119) (pIadrS s126 5 v117 (.i .i64 0) fun v132 => (cond (avEq v132 v118) (pLoad s126 false 1 v116 fun v131 => (cond (avEq v131 v117) (pFadr s126 4 v7 fun v130 => (cond (avEq v130 v116) (pLoad s126 true 2 v5 fun v129 => (cond (avEq v129 v115) (callK (R.f (I.f 12) [v115,v119,v125] s126) fun v127 s128 => (some (.ret v127 s128))) none)) none)) none)) none)) none))))))))))))) (bEql v17 (.i .i64 8) fun v134 => (eCond v134 (pLoad s8 true 2 v5 fun v135 => (pFadr s8 4 v7 fun v136 => (pLoad s8 false 1 v136 fun v137 => (pIadrS s8 5 v137 (.i .i64 0) fun v138 => (pLoad s8 true 5 v138 fun v139 => (callK (R.f (I.f 9) [v135,v139,v3] s8) fun v140 s141 => (callK (R.f (I.f 11) [v3,v140] s141) fun v142 s143 => (some (.ret v142 s143))))))))) (K15 [] s8)))))))))))))))))))))
noncomputable def B_leadsj1 (I : Ids) (R : Rec) (v2 : AV) (v4 : AV) (v3 : AV) (v6 : AV) : Cur [] := fun d8 s9 => (pBuild [(.ns),(.b false)] [(0,1,v2),(1,1,v4)] fun v10 => (pRow s9 (I.t 2) [(.ns),(.b false)] fun v11 s12 => (pStore s12 2 v11 v10 fun v13 s14 => (pLoad s14 true 2 v11 fun v15 => (callK (R.f (I.f 4) [v15] s14) fun v16 s17 => (pIadrS s17 1 v16 v3 fun v18 => (pStore s17 1 v18 (.b true) fun v19 s20 => (pLoad s20 true 2 v11 fun v21 => (pLoad s20 true 5 v6 fun v22 => (callK (R.f (I.f 9) [v21,v22,v16] s20) fun v23 s24 => (callK (R.f (I.f 5) [v23] s24) fun v25 s26 => (callK (R.f (I.f 13) [v25] s26) fun v27 s28 => (eLeave d8 s28 fun s29 => (some (.ret v27 s29)))))))))))))))
noncomputable def B_leads (I : Ids) (R : Rec) (args : List AV) (s5 : ES) : Res := argsK [0,1,2,3] args (fun v1 v2 v3 v4 => (pBox s5 (I.t 6) v1 fun v6 s7 => (jn [] (B_leadsj1 I R v2 v4 v3 v6) fun K30 => (bLss v3 (.i .i64 0) fun v31 => (jv (fun v32 s33 => (jv (fun v35 s36 => (jv (fun v38 s39 => (jv (fun v42 s43 => (pPick v31 (.b true) v42 fun v46 => (jv (fun v47 s48 => (jv (fun v51 s52 => (jv (fun v54 s55 => (pPick v46 (.b true) v54 fun v58 => (eCond v58 (some (.ret (.ns) s55)) (K30 [] s55)))) fun K56 => eGuard v46 false (pUn .not v51 fun v57 => K56 v57 s52) (K56 (.tup []) s52))) fun K53 => eGuard v46 false (callK (R.f (I.f 14) [v47] s48) K53) (K53 (.tup []) s48))) fun K49 => eGuard v46 false (pLoad s43 true 5 v6 fun v50 => K49 v50 s43) (K49 (.tup []) s43)))) fun K44 => eGuard v31 false (bGtr v32 v38 fun v45 => K44 v45 s39) (K44 (.tup []) s39))) fun K40 => eGuard v31 false (pLen false v35 fun v41 => K40 v41 s36) (K40 (.tup []) s36))) fun K37 => eGuard v31 false (K37 v2 s33) (K37 (.tup []) s33))) fun K34 => eGuard v31 false (K34 v3 s7) (K34 (.tup []) s7))))))
noncomputable def B_Begins (I : Ids) (R : Rec) (args : List AV) (s4 : ES) : Res := argsK [0,1,2] args (fun v1 v2 v3 => (pBox s4 (I.t 6) v1 fun v5 s6 => (pLoad s6 true 5 v5 fun v7 => (callK (R.f (I.f 15) [v7,v2,v3,(.b true)] s6) fun v8 s9 => (some (.ret v8 s9))))))
noncomputable def B_Ends (I : Ids) (R : Rec) (args : List AV) (s4 : ES) : Res := argsK [0,1,2] args (fun v1 v2 v3 => (pBox s4 (I.t 6) v1 fun v5 s6 => (pLoad s6 true 5 v5 fun v7 => (callK (R.f (I.f 15) [v7,v2,v3,(.b false)] s6) fun v8 s9 => (some (.ret v8 s9))))))
noncomputable def B_whyj1 (I : Ids) (R : Rec) : Cur [] := fun d7 s8 => (eLeave d7 s8 fun s9 => (some (.ret (.tup [(.i .i64 (-1)),(.b true)]) s9)))
noncomputable def B_whyj2 (I : Ids) (R : Rec) (v15 : AV) (K14 : Cur [13]) : Cur [] := fun d21 s22 => (bAdd v15 (.i .i64 1) fun v23 => (K14 v23 d21 s22))
noncomputable def B_whyj3 (I : Ids) (R : Rec) (v15 : AV) (K14 : Cur [13]) (v12 : AV) (v2 : AV) (v3 : AV) : Cur [] := fun d19 s20 => (jn [] (B_whyj2 I R v15 K14) fun K24 => (pIadrS s20 12 v12 v15 fun v25 => (pLoad s20 true 12 v25 fun v26 => (pRow s20 (I.t 7) [(.i .i64 0),(.b false),(.i .i64 0),(.i .i64 0),(.ns),(.s []),(.ns),(.i .i64 0),(.i .i64 0),(.ns),(.s []),(.ns)] fun v27 s28 => (pStore s28 12 v27 v26 fun v29 s30 => (pFadr s30 2 v27 fun v31 => (pLoad s30 true 5 v31 fun v32 => (callK (R.f (I.f 16) [v32,v2,v3] s30) fun v33 s34 => (pLen false v33 fun v35 => (bGtr v35 (.i .i64 0) fun v36 => (jv (fun v37 s38 => (jv (fun v41 s42 => (jv (fun v45 s46 => (jv (fun v48 s49 => (jv (fun v51 s52 => (jv (fun v54 s55 => (jv (fun v58 s59 => (pPick v36 v58 (.b false) fun v62 => (eCond v62 (pFadr s59 0 v27 fun v63 => (pLoad s59 false 1 v63 fun v64 => (pFadr s59 1 v27 fun v65 => (pLoad s59 false 1 v65 fun v66 => (eLeave d19 s59 fun s67 => (some (.ret (.tup [v64,v66]) s67))))))) (K24 d19 s59)))) fun K60 => eGuard v36 true (bGtr v54 (.i .i64 0) fun v61 => K60 v61 s55) (K60 (.tup []) s55))) fun K56 => eGuard v36 true (pLen false v51 fun v57 => K56 v57 s52) (K56 (.tup []) s52))) fun K53 => eGuard v36 true (callK (R.f (I.f 17) [v41,v45,v48] s49) K53) (K53 (.tup []) s49))) fun K50 => eGuard v36 true (K50 v3 s46) (K50 (.tup []) s46))) fun K47 => eGuard v36 true (K47 v2 s42) (K47 (.tup []) s42))) fun K43 => eGuard v36 true (pLoad s38 true 5 v37 fun v44 => K43 v44 s38) (K43 (.tup []) s38))) fun K39 => eGuard v36 true (pFadr s34 7 v27 fun v40 => K39 v40 s34) (K39 (.tup []) s34))))))))))))
noncomputable def B_whyl4 (I : Ids) (R : Rec) (v13 : AV) (v12 : AV) (v2 : AV) (v3 : AV) (K10 : Cur []) : Cur [13] → Cur [13] := fun K14 v15 d16 s17 => (bLss v15 v13 fun v18 => (jn [] (B_whyj3 I R v15 K14 v12 v2 v3) fun K68 => (eCond v18 (K68 d16 s17) (K10 d16 s17))))
noncomputable def B_why (I : Ids) (R : Rec) (args : List AV) (s4 : ES) : Res := argsK [0,1,2] args (fun v1 v2 v3 => (pBox s4 (I.t 8) v1 fun v5 s6 => (jn [] (B_whyj1 I R) fun K10 => (pFadr s6 0 v5 fun v11 => (pLoad s6 false 1 v11 fun v12 => (pLen false v12 fun v13 => (lp [13] 30000 (B_whyl4 I R v13 v12 v2 v3 K10) (.i .i64 0) [] s6)))))))
noncomputable def B_Skippedj1 (I : Ids) (R : Rec) (v5 : AV) (v9 : AV) (v7 : AV) : Cur [] := fun d11 s12 => (pFadr s12 1 v5 fun v13 => (pLoad s12 false 1 v13 fun v14 => (callK (R.f (I.f 18) [v14,(.fn (.func (I.f 19)) [] [v9,v7])] s12) fun v15 s16 => (eLeave d11 s16 fun s17 => (some (.ret v15 s17))))))
noncomputable def B_Skipped (I : Ids) (R : Rec) (args : List AV) (s4 : ES) : Res := argsK [0,1,2] args (fun v1 v2 v3 => (pBox s4 (I.t 8) v1 fun v5 s6 => (pBox s6 (I.t 9) v2 fun v7 s8 => (pBox s8 (I.t 10) v3 fun v9 s10 => (jn [] (B_Skippedj1 I R v5 v9 v7) fun K18 => (pLoad s10 false 1 v9 fun v19 => (bLss v19 (.i .i64 0) fun v20 => (jv (fun v21 s22 => (jv (fun v25 s26 => (jv (fun v29 s30 => (jv (fun v33 s34 => (pPick v20 (.b true) v33 fun v37 => (eCond v37 (some (.ret (.b false) s34)) (K18 [] s34)))) fun K35 => eGuard v20 false (bGtr v21 v29 fun v36 => K35 v36 s30) (K35 (.tup []) s30))) fun K31 => eGuard v20 false (pLen false v25 fun v32 => K31 v32 s26) (K31 (.tup []) s26))) fun K27 => eGuard v20 false (pLoad s22 false 1 v7 fun v28 => K27 v28 s22) (K27 (.tup []) s22))) fun K23 => eGuard v20 false (pLoad s10 false 1 v9 fun v24 => K23 v24 s10) (K23 (.tup []) s10)))))))))
noncomputable def B_Skipped1 (I : Ids) (R : Rec) (args : List AV) (s4 : ES) : Res := argsK [0,1,2] args (fun v1 v2 v3 => (pS2b s4 (I.t 11) v1 fun v5 s6 => (callK (R.f (I.f 20) [v5] s6) fun v7 s8 => (pExt v7 0 fun v9 => (pExt v7 1 fun v10 => (pLen false v9 fun v11 => (pLoad s8 false 1 v2 fun v12 => (bLeq v11 v12 fun v13 => (jv (fun v14 s15 => (jv (fun v18 s19 => (jv (fun v22 s23 => (jv (fun v25 s26 => (jv (fun v29 s30 => (jv (fun v33 s34 => (jv (fun v37 s38 => (jv (fun v41 s42 => (jv (fun v44 s45 => (pPick v13 v44 (.b false) fun v47 => (some (.ret v47 s45)))) fun K46 => eGuard v13 true (callK (R.f (I.f 21) [v37,v41] s42) K46) (K46 (.tup []) s42))) fun K43 => eGuard v13 true (K43 v9 s38) (K43 (.tup []) s38))) fun K39 => eGuard v13 true (pLsl s34 1 v14 (some v29) (some v33) none fun v40 => K39 v40 s34) (K39 (.tup []) s34))) fun K35 => eGuard v13 true (pLoad s30 false 1 v2 fun v36 => K35 v36 s30) (K35 (.tup []) s30))) fun K31 => eGuard v13 true (bSub v18 v25 fun v32 => K31 v32 s26) (K31 (.tup []) s26))) fun K27 => eGuard v13 true (pLen false v22 fun v28 => K27 v28 s23) (K27 (.tup []) s23))) fun K24 => eGuard v13 true (K24 v9 s19) (K24 (.tup []) s19))) fun K20 => eGuard v13 true (pLoad s15 false 1 v2 fun v21 => K20 v21 s15) (K20 (.tup []) s15))) fun K16 => eGuard v13 true (pLoad s8 false 1 v3 fun v17 => K16 v17 s8) (K16 (.tup []) s8))))))))))
noncomputable def B_cuts (I : Ids) (R : Rec) (args : List AV) (s3 : ES) : Res := argsK [0,1] args (fun v1 v2 => (pBox s3 (I.t 8) v1 fun v4 s5 => (pBox s5 (I.t 9) v2 fun v6 s7 => (some (.ret (.fn (.func (I.f 22)) [] [v6,v4]) s7)))))
noncomputable def B_cuts1j1 (I : Ids) (R : Rec) (v2 : AV) (v1 : AV) : Cur [] := fun d7 s8 => (pLoad s8 false 1 v2 fun v9 => (pLen false v9 fun v10 => (eCallV R.g R.b v1 [v10] s8 fun v11 s12 => (eLeave d7 s12 fun s13 => (some (.ret (.tup []) s13))))))
noncomputable def B_cuts1j2 (I : Ids) (R : Rec) (v16 : AV) (K15 : Cur [4]) : Cur [] := fun d21 s22 => (bAdd v16 (.i .i64 1) fun v23 => (K15 v23 d21 s22))
noncomputable def B_cuts1j3 (I : Ids) (R : Rec) (v16 : AV) (K15 : Cur [4]) (v3 : AV) (v2 : AV) (v1 : AV) : Cur [] := fun d19 s20 => (jn [] (B_cuts1j2 I R v16 K15) fun K24 => (pLoad s20 true 2 v3 fun v25 => (pLoad s20 false 1 v2 fun v26 => (callK (R.f (I.f 23) [v25,v26,v16] s20) fun v27 s28 => (pExt v27 0 fun v29 => (pExt v27 1 fun v30 => (jv (fun v31 s32 => (jv (fun v35 s36 => (jv (fun v39 s40 => (jv (fun v42 s43 => (jv (fun v45 s46 => (pPick v30 v45 (.b false) fun v49 => (jv (fun v50 s51 => (jv (fun v53 s54 => (jv (fun v56 s57 => (jv (fun v59 s60 => (pPick v49 v59 (.b false) fun v63 => (eCond v63 (eLeave d19 s60 fun s64 => (some (.ret (.tup []) s64))) (K24 d19 s60)))) fun K61 => eGuard v49 true (pUn .not v56 fun v62 => K61 v62 s57) (K61 (.tup []) s57))) fun K58 => eGuard v49 true (eCallV R.g R.b v50 [v53] s54 K58) (K58 (.tup []) s54))) fun K55 => eGuard v49 true (K55 v16 s51) (K55 (.tup []) s51))) fun K52 => eGuard v49 true (K52 v1 s46) (K52 (.tup []) s46)))) fun K47 => eGuard v30 true (pUn .not v42 fun v48 => K47 v48 s43) (K47 (.tup []) s43))) fun K44 => eGuard v30 true (callK (R.f (I.f 24) [v31,v35,v39] s40) K44) (K44 (.tup []) s40))) fun K41 => eGuard v30 true (K41 v16 s36) (K41 (.tup []) s36))) fun K37 => eGuard v30 true (pLoad s32 false 1 v2 fun v38 => K37 v38 s32) (K37 (.tup []) s32))) fun K33 => eGuard v30 true (pLoad s28 true 2 v3 fun v34 => K33 v34 s28) (K33 (.tup []) s28))))))))
noncomputable def B_cuts1l4 (I : Ids) (R : Rec) (v3 : AV) (v2 : AV) (v1 : AV) (K14 : Cur []) : Cur [4] → Cur [4] := fun K15 v16 d17 s18 => (jn [] (B_cuts1j3 I R v16 K15 v3 v2 v1) fun K65 => (pLoad s18 false 1 v2 fun v66 => (pLen false v66 fun v67 => (bLss v16 v67 fun v68 => (eCond v68 (K65 d17 s18) (K14 d17 s18))))))
noncomputable def B_cuts1j5 (I : Ids) (R : Rec) (v2 : AV) (v1 : AV) (v3 : AV) : Cur [] := fun d5 s6 => (jn [] (B_cuts1j1 I R v2 v1) fun K14 => (lp [4] 30000 (B_cuts1l4 I R v3 v2 v1 K14) (.i .i64 1) d5 s6))
noncomputable def B_cuts1 (I : Ids) (R : Rec) (args : List AV) (s4 : ES) : Res := argsK [0,1,2] args (fun v1 v2 v3 => (jn [] (B_cuts1j5 I R v2 v1 v3) fun K69 => (pLoad s4 false 1 v2 fun v70 => (pLen false v70 fun v71 => (bEql v71 (.i .i64 0) fun v72 => (jv (fun v73 s74 => (jv (fun v76 s77 => (jv (fun v79 s80 => (pPick v72 (.b true) v79 fun v83 => (eCond v83 (some (.ret (.tup []) s80)) (K69 [] s80)))) fun K81 => eGuard v72 false (pUn .not v76 fun v82 => K81 v82 s77) (K81 (.tup []) s77))) fun K78 => eGuard v72 false (eCallV R.g R.b v73 [(.i .i64 0)] s74 K78) (K78 (.tup []) s74))) fun K75 => eGuard v72 false (K75 v1 s4) (K75 (.tup []) s4)))))))
noncomputable def B_Cutsj1 (I : Ids) (R : Rec) (v4 : AV) (v2 : AV) : Cur [] := fun d6 s7 => (pLoad s7 true 2 v4 fun v8 => (callK (R.f (I.f 25) [v8,v2] s7) fun v9 s10 => (callK (R.f (I.f 13) [v9] s10) fun v11 s12 => (eLeave d6 s12 fun s13 => (some (.ret v11 s13))))))
noncomputable def B_Cuts (I : Ids) (R : Rec) (args : List AV) (s3 : ES) : Res := argsK [0,1] args (fun v1 v2 => (pBox s3 (I.t 8) v1 fun v4 s5 => (jn [] (B_Cutsj1 I R v4 v2) fun K14 => (pLoad s5 true 2 v4 fun v15 => (callK (R.f (I.f 26) [v15] s5) fun v16 s17 => (pUn .not v16 fun v18 => (eCond v18 (some (.ret (.ns) s17)) (K14 [] s17))))))))
noncomputable def B_CollectI (I : Ids) (R : Rec) (args : List AV) (s2 : ES) : Res := argsK [0] args (fun v1 => (callK (R.f (I.f 27) [(.ns),v1] s2) fun v3 s4 => (some (.ret v3 s4))))
noncomputable def B_AppSeqIj1 (I : Ids) (R : Rec) (v4 : AV) : Cur [] := fun d6 s7 => (pLoad s7 false 1 v4 fun v8 => (eLeave d6 s7 fun s9 => (some (.ret v8 s9))))
noncomputable def B_AppSeqI (I : Ids) (R : Rec) (args : List AV) (s3 : ES) : Res := argsK [0,1] args (fun v1 v2 => (pBox s3 (I.t 12) v1 fun v4 s5 => (jn [] (B_AppSeqIj1 I R v4) fun K10 => (pRange R.h 13 v2 [7] (envL [(2,v4)]) (I.x 2) (I.x 3) [] s5 (fun d11 s12 => (K10 d11 s12)) fun e13 d14 s15 => (xsel 0 e13 (K10 d14 s15) fun e16 => (xfin e16 (eLeave d14 s15 fun s17 => (some (.ret (.ns) s17)))))))))
noncomputable def C0_AppSeqI (I : Ids) (R : Rec) (f : Nat → AV) (s3 : ES) : Res := tmpsK [2,7] f (fun v1 v2 => (some (.ex .normal (envL [(2,v1),(5,v2)]) s3)))
noncomputable def C1_AppSeqI (I : Ids) (R : Rec) (f : Nat → AV) (s3 : ES) : Res := tmpsK [2,5] f (fun v1 v2 => (pLoad s3 false 1 v1 fun v4 => (pLit s3 (I.t 10) 1 1 [(.i .i64 0)] [(0,1,v2)] fun v5 s6 => (pAppend s6 (I.t 10) 1 v4 v5 fun v7 s8 => (pStore s8 1 v1 v7 fun v9 s10 => (some (.ex .normal (envL []) s10)))))))
noncomputable def B_CFS (I : Ids) (R : Rec) (args : List AV) (s3 : ES) : Res := argsK [0,1] args (fun v1 v2 => (callK (R.f (I.f 28) [v1,v2] s3) fun v4 s5 => (bGeq v4 (.i .i64 0) fun v6 => (some (.ret v6 s5)))))
noncomputable def B_IFSj1 (I : Ids) (R : Rec) : Cur [] := fun d4 s5 => (eLeave d4 s5 fun s6 => (some (.ret (.i .i64 (-1)) s6)))
noncomputable def B_IFSj2 (I : Ids) (R : Rec) (v10 : AV) (K9 : Cur [8]) : Cur [] := fun d16 s17 => (bAdd v10 (.i .i64 1) fun v18 => (K9 v18 d16 s17))
noncomputable def B_IFSj3 (I : Ids) (R : Rec) (v10 : AV) (K9 : Cur [8]) (v1 : AV) (v2 : AV) : Cur [] := fun d14 s15 => (jn [] (B_IFSj2 I R v10 K9) fun K19 => (pIadrS s15 1 v1 v10 fun v20 => (pLoad s15 false 1 v20 fun v21 => (eCallV R.g R.b v2 [v21] s15 fun v22 s23 => (eCond v22 (eLeave d14 s23 fun s24 => (some (.ret v10 s24))) (K19 d14 s23))))))
noncomputable def B_IFSl4 (I : Ids) (R : Rec) (v8 : AV) (v1 : AV) (v2 : AV) (K7 : Cur []) : Cur [8] → Cur [8] := fun K9 v10 d11 s12 => (bLss v10 v8 fun v13 => (jn [] (B_IFSj3 I R v10 K9 v1 v2) fun K25 => (eCond v13 (K25 d11 s12) (K7 d11 s12))))
noncomputable def B_IFS (I : Ids) (R : Rec) (args : List AV) (s3 : ES) : Res := argsK [0,1] args (fun v1 v2 => (jn [] (B_IFSj1 I R) fun K7 => (pLen false v1 fun v8 => (lp [8] 30000 (B_IFSl4 I R v8 v1 v2 K7) (.i .i64 0) [] s3))))
noncomputable def B_DecRunej1 (I : Ids) (R : Rec) (v1 : AV) : Cur [] := fun d3 s4 => (callK (R.f (I.f 33) [v1] s4) fun v5 s6 => (pExt v5 0 fun v7 => (pExt v5 1 fun v8 => (eLeave d3 s6 fun s9 => (some (.ret (.tup [v7,v8]) s9))))))
noncomputable def B_DecRunej2 (I : Ids) (R : Rec) (v13 : AV) (K12 : Cur [8]) : Cur [] := fun d19 s20 => (bAdd v13 (.i .i64 1) fun v21 => (K12 v21 d19 s20))
noncomputable def B_DecRunej3 (I : Ids) (R : Rec) (K10 : Cur []) : Cur [] := fun d25 s26 => (K10 d25 s26)
noncomputable def B_DecRunej4 (I : Ids) (R : Rec) (v13 : AV) (K12 : Cur [8]) (v1 : AV) (K10 : Cur []) : Cur [] := fun d17 s18 => (jn [] (B_DecRunej2 I R v13 K12) fun K22 => (pIadrS s18 1 v1 v13 fun v23 => (pLoad s18 false 1 v23 fun v24 => (jn [] (B_DecRunej3 I R K10) fun K27 => (bLss v24 (.i .u8 128) fun v28 => (eCond v28 (pInt .i32 v24 fun v29 => (eLeave d17 s18 fun s30 => (some (.ret (.tup [v29,(.i .i64 1)]) s30)))) (K27 d17 s18)))))))
noncomputable def B_DecRunel5 (I : Ids) (R : Rec) (v11 : AV) (v1 : AV) (K10 : Cur []) : Cur [8] → Cur [8] := fun K12 v13 d14 s15 => (bLss v13 v11 fun v16 => (jn [] (B_DecRunej4 I R v13 K12 v1 K10) fun K31 => (eCond v16 (K31 d14 s15) (K10 d14 s15))))
noncomputable def B_DecRune (I : Ids) (R : Rec) (args : List AV) (s2 : ES) : Res := argsK [0] args (fun v1 => (jn [] (B_DecRunej1 I R v1) fun K10 => (pLen false v1 fun v11 => (lp [8] 30000 (B_DecRunel5 I R v11 v1 K10) (.i .i64 0) [] s2))))
noncomputable def B_DecSlowj1 (I : Ids) (R : Rec) (v7 : AV) (v24 : AV) (v30 : AV) (v36 : AV) : Cur [] := fun d37 s38 => (pBin .and v7 (.i .u8 7) fun v39 => (pInt .i32 v39 fun v40 => (pBin .shl v40 (.i .u64 18) fun v41 => (pBin .and v24 (.i .u8 63) fun v42 => (pInt .i32 v42 fun v43 => (pBin .shl v43 (.i .u64 12) fun v44 => (pBin .or v41 v44 fun v45 => (pBin .and v30 (.i .u8 63) fun v46 => (pInt .i32 v46 fun v47 => (pBin .shl v47 (.i .u64 6) fun v48 => (pBin .or v45 v48 fun v49 => (pBin .and v36 (.i .u8 63) fun v50 => (pInt .i32 v50 fun v51 => (pBin .or v49 v51 fun v52 => (eLeave d37 s38 fun s53 => (some (.ret (.tup [v52,(.i .i64 4)]) s53)))))))))))))))))
noncomputable def B_DecSlowj2 (I : Ids) (R : Rec) (v1 : AV) (v7 : AV) (v24 : AV) (v30 : AV) : Cur [] := fun d33 s34 => (pIadrS s34 1 v1 (.i .i64 3) fun v35 => (pLoad s34 false 1 v35 fun v36 => (jn [] (B_DecSlowj1 I R v7 v24 v30 v36) fun K54 => (bLss v36 (.i .u8 128) fun v55 => (jv (fun v56 s57 => (jv (fun v59 s60 => (pPick v55 (.b true) v59 fun v63 => (eCond v63 (eLeave d33 s60 fun s64 => (some (.ret (.tup [(.i .i32 65533),(.i .i64 1)]) s64))) (K54 d33 s60)))) fun K61 => eGuard v55 false (bLss (.i .u8 191) v56 fun v62 => K61 v62 s57) (K61 (.tup []) s57))) fun K58 => eGuard v55 false (K58 v36 s34) (K58 (.tup []) s34))))))
noncomputable def B_DecSlowj3 (I : Ids) (R : Rec) (v1 : AV) (v7 : AV) (v24 : AV) (v30 : AV) (v13 : AV) : Cur [] := fun d31 s32 => (jn [] (B_DecSlowj2 I R v1 v7 v24 v30) fun K65 => (bLeq v13 (.i .i64 3) fun v66 => (eCond v66 (pBin .and v7 (.i .u8 15) fun v67 => (pInt .i32 v67 fun v68 => (pBin .shl v68 (.i .u64 12) fun v69 => (pBin .and v24 (.i .u8 63) fun v70 => (pInt .i32 v70 fun v71 => (pBin .shl v71 (.i .u64 6) fun v72 => (pBin .or v69 v72 fun v73 => (pBin .and v30 (.i .u8 63) fun v74 => (pInt .i32 v74 fun v75 => (pBin .or v73 v75 fun v76 => (eLeave d31 s32 fun s77 => (some (.ret (.tup [v76,(.i .i64 3)]) s77))))))))))))) (K65 d31 s32))))
noncomputable def B_DecSlowj4 (I : Ids) (R : Rec) (v1 : AV) (v7 : AV) (v24 : AV) (v13 : AV) : Cur [] := fun d27 s28 => (pIadrS s28 1 v1 (.i .i64 2) fun v29 => (pLoad s28 false 1 v29 fun v30 => (jn [] (B_DecSlowj3 I R v1 v7 v24 v30 v13) fun K78 => (bLss v30 (.i .u8 128) fun v79 => (jv (fun v80 s81 => (jv (fun v83 s84 => (pPick v79 (.b true) v83 fun v87 => (eCond v87 (eLeave d27 s84 fun s88 => (some (.ret (.tup [(.i .i32 65533),(.i .i64 1)]) s88))) (K78 d27 s84)))) fun K85 => eGuard v79 false (bLss (.i .u8 191) v80 fun v86 => K85 v86 s81) (K85 (.tup []) s81))) fun K82 => eGuard v79 false (K82 v30 s28) (K82 (.tup []) s28))))))
noncomputable def B_DecSlowj5 (I : Ids) (R : Rec) (v1 : AV) (v7 : AV) (v24 : AV) (v13 : AV) : Cur [] := fun d25 s26 => (jn [] (B_DecSlowj4 I R v1 v7 v24 v13) fun K89 => (bLeq v13 (.i .i64 2) fun v90 => (eCond v90 (pBin .and v7 (.i .u8 31) fun v91 => (pInt .i32 v91 fun v92 => (pBin .shl v92 (.i .u64 6) fun v93 => (pBin .and v24 (.i .u8 63) fun v94 => (pInt .i32 v94 fun v95 => (pBin .or v93 v95 fun v96 => (eLeave d25 s26 fun s97 => (some (.ret (.tup [v96,(.i .i64 2)]) s97))))))))) (K89 d25 s26))))
noncomputable def B_DecSlowj6 (I : Ids) (R : Rec) (v1 : AV) (v7 : AV) (v13 : AV) (v17 : AV) : Cur [] := fun d21 s22 => (pIadrS s22 1 v1 (.i .i64 1) fun v23 => (pLoad s22 false 1 v23 fun v24 => (jn [] (B_DecSlowj5 I R v1 v7 v24 v13) fun K98 => (pFadr s22 0 v17 fun v99 => (pLoad s22 false 1 v99 fun v100 => (bLss v24 v100 fun v101 => (jv (fun v102 s103 => (jv (fun v106 s107 => (jv (fun v110 s111 => (jv (fun v113 s114 => (pPick v101 (.b true) v113 fun v117 => (eCond v117 (eLeave d21 s114 fun s118 => (some (.ret (.tup [(.i .i32 65533),(.i .i64 1)]) s118))) (K98 d21 s114)))) fun K115 => eGuard v101 false (bLss v106 v110 fun v116 => K115 v116 s111) (K115 (.tup []) s111))) fun K112 => eGuard v101 false (K112 v24 s107) (K112 (.tup []) s107))) fun K108 => eGuard v101 false (pLoad s103 false 1 v102 fun v109 => K108 v109 s103) (K108 (.tup []) s103))) fun K104 => eGuard v101 false (pFadr s22 1 v17 fun v105 => K104 v105 s22) (K104 (.tup []) s22))))))))
noncomputable def B_DecSlowj7 (I : Ids) (R : Rec) (v9 : AV) (v1 : AV) (v7 : AV) (v3 : AV) : Cur [] := fun d10 s11 => (pBin .and v9 (.i .u8 7) fun v12 => (pInt .i64 v12 fun v13 => (pBin .shr v9 (.i .u64 4) fun v14 => (pIadrA s11 2 16 (.pe (I.g 0) 32 0 0) v14 fun v15 => (pLoad s11 true 2 v15 fun v16 => (pRow s11 (I.t 13) [(.i .u8 0),(.i .u8 0)] fun v17 s18 => (pStore s18 2 v17 v16 fun v19 s20 => (jn [] (B_DecSlowj6 I R v1 v7 v13 v17) fun K119 => (bLss v3 v13 fun v120 => (eCond v120 (eLeave d10 s20 fun s121 => (some (.ret (.tup [(.i .i32 65533),(.i .i64 1)]) s121))) (K119 d10 s20)))))))))))
noncomputable def B_DecSlowj8 (I : Ids) (R : Rec) (v1 : AV) (v3 : AV) : Cur [] := fun d4 s5 => (pIadrS s5 1 v1 (.i .i64 0) fun v6 => (pLoad s5 false 1 v6 fun v7 => (pIadrA s5 1 256 (.pe (I.g 1) 256 0 0) v7 fun v8 => (pLoad s5 false 1 v8 fun v9 => (jn [] (B_DecSlowj7 I R v9 v1 v7 v3) fun K122 => (bGeq v9 (.i .u8 240) fun v123 => (eCond v123 (pInt .i32 v9 fun v124 => (pBin .shl v124 (.i .u64 31) fun v125 => (pBin .shr v125 (.i .u64 31) fun v126 => (pIadrS s5 1 v1 (.i .i64 0) fun v127 => (pLoad s5 false 1 v127 fun v128 => (pInt .i32 v128 fun v129 => (pBin .andNot v129 v126 fun v130 => (pBin .and (.i .i32 65533) v126 fun v131 => (pBin .or v130 v131 fun v132 => (eLeave d4 s5 fun s133 => (some (.ret (.tup [v132,(.i .i64 1)]) s133)))))))))))) (K122 d4 s5))))))))
noncomputable def B_DecSlow (I : Ids) (R : Rec) (args : List AV) (s2 : ES) : Res := argsK [0] args (fun v1 => (pLen false v1 fun v3 => (jn [] (B_DecSlowj8 I R v1 v3) fun K134 => (bLss v3 (.i .i64 1) fun v135 => (eCond v135 (some (.ret (.tup [(.i .i32 65533),(.i .i64 0)]) s2)) (K134 [] s2))))))
noncomputable def B_steps (I : Ids) (R : Rec) (args : List AV) (s2 : ES) : Res := argsK [0] args (fun v1 => (pBox s2 (I.t 14) v1 fun v3 s4 => (some (.ret (.fn (.func (I.f 34)) [] [v3]) s4))))
noncomputable def B_steps1j1 (I : Ids) (R : Rec) (v5 : AV) (v15 : AV) (K4 : Cur [3]) : Cur [] := fun d16 s17 => (bAdd v5 v15 fun v18 => (K4 v18 d16 s17))
noncomputable def B_steps1j2 (I : Ids) (R : Rec) (v2 : AV) (v5 : AV) (K4 : Cur [3]) (v1 : AV) : Cur [] := fun d8 s9 => (pLoad s9 false 1 v2 fun v10 => (pLsl s9 1 v10 (some v5) none none fun v11 => (callK (R.f (I.f 35) [v11] s9) fun v12 s13 => (pExt v12 0 fun v14 => (pExt v12 1 fun v15 => (jn [] (B_steps1j1 I R v5 v15 K4) fun K19 => (bNeq v14 (.i .i32 65533) fun v20 => (jv (fun v21 s22 => (jv (fun v24 s25 => (pPick v20 (.b true) v24 fun v28 => (pBuild [(.i .i32 0),(.i .i64 0),(.b false)] [(0,1,v14),(1,1,v5),(2,1,v28)] fun v29 => (eCallV R.g R.b v1 [v29] s25 fun v30 s31 => (pUn .not v30 fun v32 => (eCond v32 (eLeave d8 s31 fun s33 => (some (.ret (.tup []) s33))) (K19 d8 s31))))))) fun K26 => eGuard v20 false (bGtr v21 (.i .i64 1) fun v27 => K26 v27 s22) (K26 (.tup []) s22))) fun K23 => eGuard v20 false (K23 v15 s13) (K23 (.tup []) s13)))))))))
noncomputable def B_steps1l3 (I : Ids) (R : Rec) (v2 : AV) (v1 : AV) : Cur [3] → Cur [3] := fun K4 v5 d6 s7 => (jn [] (B_steps1j2 I R v2 v5 K4 v1) fun K34 => (pLoad s7 false 1 v2 fun v35 => (pLen false v35 fun v36 => (bLss v5 v36 fun v37 => (eCond v37 (K34 d6 s7) (eLeave d6 s7 fun s38 => (some (.ret (.tup []) s38))))))))
noncomputable def B_steps1 (I : Ids) (R : Rec) (args : List AV) (s3 : ES) : Res := argsK [0,1] args (fun v1 v2 => (lp [3] 30000 (B_steps1l3 I R v2 v1) (.i .i64 0) [] s3))
noncomputable def B_Runesj1 (I : Ids) (R : Rec) (v3 : AV) (v5 : AV) : Cur [] := fun d7 s8 => (pLoad s8 false 1 v3 fun v9 => (pLoad s8 false 1 v5 fun v10 => (eLeave d7 s8 fun s11 => (some (.ret (.tup [v9,v10]) s11)))))
noncomputable def B_Runes (I : Ids) (R : Rec) (args : List AV) (s2 : ES) : Res := argsK [0] args (fun v1 => (pRow s2 (I.t 9) [(.ns)] fun v3 s4 => (pRow s4 (I.t 12) [(.ns)] fun v5 s6 => (jn [] (B_Runesj1 I R v3 v5) fun K12 => (callK (R.f (I.f 36) [v1] s6) fun v13 s14 => (pRange R.h 22 v13 [9] (envL [(4,v3),(5,v5)]) (I.x 4) (I.x 5) [] s14 (fun d15 s16 => (K12 d15 s16)) fun e17 d18 s19 => (xsel 0 e17 (K12 d18 s19) fun e20 => (xfin e20 (eLeave d18 s19 fun s21 => (some (.ret (.tup [(.ns),(.ns)]) s21)))))))))))
noncomputable def C0_Runes (I : Ids) (R : Rec) (f : Nat → AV) (s4 : ES) : Res := tmpsK [4,5,9] f (fun v1 v2 v3 => (pRow s4 (I.t 15) [(.i .i32 0),(.i .i64 0),(.b false)] fun v5 s6 => (pStore s6 3 v5 v3 fun v7 s8 => (some (.ex .normal (envL [(4,v1),(5,v2),(6,v5)]) s8)))))
noncomputable def C1_Runes (I : Ids) (R : Rec) (f : Nat → AV) (s4 : ES) : Res := tmpsK [4,5,6] f (fun v1 v2 v3 => (pLoad s4 false 1 v1 fun v5 => (pFadr s4 0 v3 fun v6 => (pLoad s4 false 1 v6 fun v7 => (pLoad s4 false 1 v2 fun v8 => (pFadr s4 1 v3 fun v9 => (pLoad s4 false 1 v9 fun v10 => (both (pLit s4 (I.t 1) 1 1 [(.i .i32 0)] [(0,1,v7)] fun v11 s12 => (pLoad s12 false 1 v9 fun v50 => (cond (avEq v50 v10) (pFadr s12 1 v3 fun v49 => (cond (avEq v49 v9) (pLoad s12 false 1 v2 fun v48 => (cond (avEq v48 v8) (pLoad s12 false 1 v1 fun v47 => (cond (avEq v47 v5) (both (pAppend s12 (I.t 1) 1 v5 v11 fun v13 s14 => (pLoad s14 false 1 v9 fun v29 => (cond (avEq v29 v10) (pFadr s14 1 v3 fun v28 => (cond (avEq v28 v9) (pLoad s14 false 1 v2 fun v27 => (cond (avEq v27 v8) (pLit s14 (I.t 10) 1 1 [(.i .i64 0)] [(0,1,v10)] fun v15 s16 => (pLoad s16 false 1 v2 fun v26 => (cond (avEq v26 v8) (pLoad s16 false 1 v6 fun v25 => (cond (avEq v25 v7) (pFadr s16 0 v3 fun v24 => (cond (avEq v24 v6) (pLoad s16 false 1 v1 fun v23 => (cond (avEq v23 v5) (pAppend s16 (I.t 10) 1 v8 v15 fun v17 s18 => (pStore s18 1 v1 v13 fun v19 s20 => (pStore s20 1 v2 v17 fun v21 s22 => (some (.ex .normal (envL []) s22))))) none)) none)) none)) none))) none)) none)) none))) (pLit s12 (I.t 10) 1 1 [(.i .i64 0)] [(0,1,v10)] fun v30 s31 => (pLoad s31 false 1 v2 fun v46 => (cond (avEq v46 v8) (pLoad s31 false 1 v6 fun v45 => (cond (avEq v45 v7) (pFadr s31 0 v3 fun v44 => (cond (avEq v44 v6) (pLoad s31 false 1 v1 fun v43 => (cond (avEq v43 v5) (pAppend s31 (I.t 1) 1 v5 v11 fun v32 s33 => (pLoad s33 false 1 v9 fun v42 => (cond (avEq v42 v10) (pFadr s33 1 v3 fun v41 => (cond (avEq v41 v9) (pLoad s33 false 1 v2 fun v40 => (cond (avEq v40 v8) (pAppend s33 (I.t 10) 1 v8 v30 fun v34 s35 => (pStore s35 1 v1 v32 fun v36 s37 => (pStore s37 1 v2 v34 fun v38 s39 => (some (.ex .normal (envL []) s39))))) none)) none)) none))) none)) none)) none)) none)))) none)) none)) none)) none))) (pLit s4 (I.t 10) 1 1 [(.i .i64 0)] [(0,1,v10)] fun v51 s52 => (pLoad s52 false 1 v2 fun v73 => (cond (avEq v73 v8) (pLoad s52 false 1 v6 fun v72 => (cond (avEq v72 v7) (pFadr s52 0 v3 fun v71 => (cond (avEq v71 v6) (pLoad s52 false 1 v1 fun v70 => (cond (avEq v70 v5) (pLit s52 (I.t 1) 1 1 [(.i .i32 0)] [(0,1,v7)] fun v53 s54 => (pLoad s54 false 1 v9 fun v69 => (cond (avEq v69 v10) (pFadr s54 1 v3 fun v68 => (cond (avEq v68 v9) (pLoad s54 false 1 v2 fun v67 => (cond (avEq v67 v8) (pLoad s54 false 1 v1 fun v66 => (cond (avEq v66 v5) (pAppend s54 (I.t 1) 1 v5 v53 fun v55 s56 => (pLoad s56 false 1 v9 fun v65 => (cond (avEq v65 v10) (pFadr s56 1 v3 fun v64 => (cond (avEq v64 v9) (pLoad s56 false 1 v2 fun v63 => (cond (avEq v63 v8) (pAppend s56 (I.t 10) 1 v8 v51 fun v57 s58 => (pStore s58 1 v1 v55 fun v59 s60 => (pStore s60 1 v2 v57 fun v61 s62 => (some (.ex .normal (envL []) s62))))) none)) none)) none))) none)) none)) none)) none))) none)) none)) none)) none)))))))))))
noncomputable def B_Atj1 (I : Ids) (R : Rec) (v1 : AV) (v3 : AV) : Cur [] := fun d5 s6 => (pIadrS s6 1 v1 v3 fun v7 => (pLoad s6 false 1 v7 fun v8 => (eLeave d5 s6 fun s9 => (some (.ret v8 s9)))))
noncomputable def B_At (I : Ids) (R : Rec) (args : List AV) (s4 : ES) : Res := argsK [0,1,2] args (fun v1 v2 v3 => (jn [] (B_Atj1 I R v1 v3) fun K10 => (bLss v3 (.i .i64 0) fun v11 => (jv (fun v12 s13 => (jv (fun v15 s16 => (jv (fun v18 s19 => (jv (fun v22 s23 => (pPick v11 (.b true) v22 fun v26 => (eCond v26 (some (.ret (.i .i64 (-1)) s23)) (pLen false v1 fun v27 => (bEql v3 v27 fun v28 => (eCond v28 (some (.ret v2 s23)) (K10 [] s23))))))) fun K24 => eGuard v11 false (bGtr v12 v18 fun v25 => K24 v25 s19) (K24 (.tup []) s19))) fun K20 => eGuard v11 false (pLen false v15 fun v21 => K20 v21 s16) (K20 (.tup []) s16))) fun K17 => eGuard v11 false (K17 v1 s13) (K17 (.tup []) s13))) fun K14 => eGuard v11 false (K14 v3 s4) (K14 (.tup []) s4)))))
noncomputable def B_Bytes17j1 (I : Ids) (R : Rec) (v11 : AV) : Cur [] := fun d13 s14 => (eLeave d13 s14 fun s15 => (some (.ret v11 s15)))
noncomputable def B_Bytes17j2 (I : Ids) (R : Rec) (v19 : AV) (K18 : Cur [20]) : Cur [] := fun d25 s26 => (bAdd v19 (.i .i64 1) fun v27 => (K18 v27 d25 s26))
noncomputable def B_Bytes17j3 (I : Ids) (R : Rec) (v19 : AV) (K18 : Cur [20]) (v11 : AV) (v2 : AV) (v9 : AV) : Cur [] := fun d23 s24 => (jn [] (B_Bytes17j2 I R v19 K18) fun K28 => (pIadrS s24 1 v11 v19 fun v29 => (pLoad s24 false 1 v29 fun v30 => (pLen false v2 fun v31 => (callK (R.f (I.f 37) [v9,v31,v30] s24) fun v32 s33 => (pIadrS s33 1 v11 v19 fun v34 => (pStore s33 1 v34 v32 fun v35 s36 => (K28 d23 s36))))))))
noncomputable def B_Bytes17l4 (I : Ids) (R : Rec) (v17 : AV) (v11 : AV) (v2 : AV) (v9 : AV) (K16 : Cur []) : Cur [20] → Cur [20] := fun K18 v19 d20 s21 => (bLss v19 v17 fun v22 => (jn [] (B_Bytes17j3 I R v19 K18 v11 v2 v9) fun K37 => (eCond v22 (K37 d20 s21) (K16 d20 s21))))
noncomputable def B_Bytes17 (I : Ids) (R : Rec) (args : List AV) (s3 : ES) : Res := argsK [0,1] args (fun v1 v2 => (pBox s3 (I.t 8) v1 fun v4 s5 => (callK (R.f (I.f 20) [v2] s5) fun v6 s7 => (pExt v6 0 fun v8 => (pExt v6 1 fun v9 => (pLoad s7 true 2 v4 fun v10 => (callK (R.f (I.f 29) [v10,v8] s7) fun v11 s12 => (jn [] (B_Bytes17j1 I R v11) fun K16 => (pLen false v11 fun v17 => (lp [20] 30000 (B_Bytes17l4 I R v17 v11 v2 v9 K16) (.i .i64 0) [] s12))))))))))
noncomputable def B_ronej1 (I : Ids) (R : Rec) (v13 : AV) (v6 : AV) : Cur [] := fun d16 s17 => (eLeave d16 s17 fun s18 => (some (.ret (.tup [v13,v6]) s18)))
noncomputable def B_ronej2 (I : Ids) (R : Rec) (v6 : AV) (v8 : AV) : Cur [6] := fun v13 d14 s15 => (jn [] (B_ronej1 I R v13 v6) fun K19 => (bLss v13 v8 fun v20 => (jv (fun v21 s22 => (jv (fun v24 s25 => (pPick v20 (.b true) v24 fun v28 => (jv (fun v29 s30 => (jv (fun v32 s33 => (jv (fun v36 s37 => (jv (fun v39 s40 => (jv (fun v42 s43 => (jv (fun v46 s47 => (pPick v28 (.b true) v46 fun v50 => (eCond v50 (eLeave d14 s47 fun s51 => (some (.ret (.tup [(.i .i32 0),(.i .i64 0)]) s51))) (K19 d14 s47)))) fun K48 => eGuard v28 false (pPick v36 v42 (.b false) fun v49 => K48 v49 s43) (K48 (.tup []) s43))) fun K44 => eGuard v36 true (bLeq v39 (.i .i32 57343) fun v45 => K44 v45 s40) (K44 (.tup []) s40))) fun K41 => eGuard v36 true (K41 v13 s37) (K41 (.tup []) s37))) fun K38 => eGuard v28 false (K38 v32 s33) (K38 (.tup []) s33))) fun K34 => eGuard v28 false (bGeq v29 (.i .i32 55296) fun v35 => K34 v35 s30) (K34 (.tup []) s30))) fun K31 => eGuard v28 false (K31 v13 s25) (K31 (.tup []) s25)))) fun K26 => eGuard v20 false (bGtr v21 (.i .i32 1114111) fun v27 => K26 v27 s22) (K26 (.tup []) s22))) fun K23 => eGuard v20 false (K23 v13 s15) (K23 (.tup []) s15))))
noncomputable def B_ronej3 (I : Ids) (R : Rec) (v55 : AV) (K53 : Cur [6,8]) : Cur [6] := fun v60 d61 s62 => (bAdd v55 (.i .i64 1) fun v63 => (K53 v60 v63 d61 s62))
noncomputable def B_ronej4 (I : Ids) (R : Rec) (v54 : AV) (v1 : AV) (v55 : AV) (K64 : Cur [6]) : Cur [] := fun d65 s66 => (pBin .shl v54 (.i .u64 6) fun v67 => (pIadrS s66 1 v1 v55 fun v68 => (pLoad s66 false 1 v68 fun v69 => (pBin .and v69 (.i .u8 63) fun v70 => (pInt .i32 v70 fun v71 => (pBin .or v67 v71 fun v72 => (K64 v72 d65 s66)))))))
noncomputable def B_ronej5 (I : Ids) (R : Rec) (v55 : AV) (K53 : Cur [6,8]) (v54 : AV) (v1 : AV) : Cur [] := fun d58 s59 => (jn [6] (B_ronej3 I R v55 K53) fun K64 => (jn [] (B_ronej4 I R v54 v1 v55 K64) fun K73 => (pIadrS s59 1 v1 v55 fun v74 => (pLoad s59 false 1 v74 fun v75 => (pBin .and v75 (.i .u8 192) fun v76 => (bNeq v76 (.i .u8 128) fun v77 => (eCond v77 (eLeave d58 s59 fun s78 => (some (.ret (.tup [(.i .i32 0),(.i .i64 0)]) s78))) (K73 d58 s59))))))))
noncomputable def B_ronel6 (I : Ids) (R : Rec) (v1 : AV) (v6 : AV) (K52 : Cur [6]) : Cur [6,8] → Cur [6,8] := fun K53 v54 v55 d56 s57 => (jn [] (B_ronej5 I R v55 K53 v54 v1) fun K79 => (bLss v55 v6 fun v80 => (eCond v80 (K79 d56 s57) (K52 v54 d56 s57))))
noncomputable def B_ronej7 (I : Ids) (R : Rec) (v6 : AV) (v8 : AV) (v1 : AV) (v7 : AV) : Cur [] := fun d11 s12 => (jn [6] (B_ronej2 I R v6 v8) fun K52 => (lp [6,8] 30000 (B_ronel6 I R v1 v6 K52) v7 (.i .i64 1) d11 s12))
noncomputable def B_ronej8 (I : Ids) (R : Rec) (v1 : AV) : Cur [5,6,7] := fun v6 v7 v8 d9 s10 => (jn [] (B_ronej7 I R v6 v8 v1 v7) fun K81 => (bEql v6 (.i .i64 0) fun v82 => (jv (fun v83 s84 => (jv (fun v86 s87 => (jv (fun v90 s91 => (jv (fun v93 s94 => (pPick v82 (.b true) v93 fun v97 => (eCond v97 (eLeave d9 s94 fun s98 => (some (.ret (.tup [(.i .i32 0),(.i .i64 0)]) s98))) (K81 d9 s94)))) fun K95 => eGuard v82 false (bLss v86 v90 fun v96 => K95 v96 s91) (K95 (.tup []) s91))) fun K92 => eGuard v82 false (K92 v6 s87) (K92 (.tup []) s87))) fun K88 => eGuard v82 false (pLen false v83 fun v89 => K88 v89 s84) (K88 (.tup []) s84))) fun K85 => eGuard v82 false (K85 v1 s10) (K85 (.tup []) s10))))
noncomputable def B_rone (I : Ids) (R : Rec) (args : List AV) (s2 : ES) : Res := argsK [0] args (fun v1 => (pIadrS s2 1 v1 (.i .i64 0) fun v3 => (pLoad s2 false 1 v3 fun v4 => (pInt .i32 v4 fun v5 => (jn [5,6,7] (B_ronej8 I R v1) fun K99 => (bLss v5 (.i .i32 128) fun v100 => (eCond v100 (some (.ret (.tup [v5,(.i .i64 1)]) s2)) (bGeq v5 (.i .i32 192) fun v101 => (jv (fun v102 s103 => (jv (fun v105 s106 => (pPick v101 v105 (.b false) fun v109 => (eCond v109 (pBin .and v5 (.i .i32 31) fun v110 => (K99 (.i .i64 2) v110 (.i .i32 128) [] s106)) (bGeq v5 (.i .i32 224) fun v111 => (jv (fun v112 s113 => (jv (fun v115 s116 => (pPick v111 v115 (.b false) fun v119 => (eCond v119 (pBin .and v5 (.i .i32 15) fun v120 => (K99 (.i .i64 3) v120 (.i .i32 2048) [] s116)) (bGeq v5 (.i .i32 240) fun v121 => (jv (fun v122 s123 => (jv (fun v125 s126 => (pPick v121 v125 (.b false) fun v129 => (eCond v129 (pBin .and v5 (.i .i32 7) fun v130 => (K99 (.i .i64 4) v130 (.i .i32 65536) [] s126)) (K99 (.i .i64 0) (.i .i32 0) (.i .i32 0) [] s126)))) fun K127 => eGuard v121 true (bLss v122 (.i .i32 248) fun v128 => K127 v128 s123) (K127 (.tup []) s123))) fun K124 => eGuard v121 true (K124 v5 s116) (K124 (.tup []) s116)))))) fun K117 => eGuard v111 true (bLss v112 (.i .i32 240) fun v118 => K117 v118 s113) (K117 (.tup []) s113))) fun K114 => eGuard v111 true (K114 v5 s106) (K114 (.tup []) s106)))))) fun K107 => eGuard v101 true (bLss v102 (.i .i32 224) fun v108 => K107 v108 s103) (K107 (.tup []) s103))) fun K104 => eGuard v101 true (K104 v5 s2) (K104 (.tup []) s2))))))))))
noncomputable def B_rRunesj1 (I : Ids) (R : Rec) : Cur [5,6,7] := fun v3 v4 v5 d6 s7 => (eLeave d6 s7 fun s8 => (some (.ret (.tup [v3,v4,v5]) s8)))
noncomputable def B_rRunesj2 (I : Ids) (R : Rec) (v11 : AV) (v14 : AV) (v12 : AV) (K10 : Cur [5,6,7,8]) : Cur [7,9,10] := fun v24 v25 v26 d27 s28 => (pLit s28 (I.t 1) 1 1 [(.i .i32 0)] [(0,1,v25)] fun v29 s30 => (pAppend s30 (I.t 1) 1 v11 v29 fun v31 s32 => (pLit s32 (I.t 10) 1 1 [(.i .i64 0)] [(0,1,v14)] fun v33 s34 => (pAppend s34 (I.t 10) 1 v12 v33 fun v35 s36 => (bAdd v14 v26 fun v37 => (K10 v31 v35 v24 v37 d27 s36))))))
noncomputable def B_rRunesj3 (I : Ids) (R : Rec) (v1 : AV) (v14 : AV) (v11 : AV) (v12 : AV) (K10 : Cur [5,6,7,8]) (v13 : AV) : Cur [] := fun d17 s18 => (pLsl s18 1 v1 (some v14) none none fun v19 => (callK (R.f (I.f 38) [v19] s18) fun v20 s21 => (pExt v20 0 fun v22 => (pExt v20 1 fun v23 => (jn [7,9,10] (B_rRunesj2 I R v11 v14 v12 K10) fun K38 => (bEql v23 (.i .i64 0) fun v39 => (eCond v39 (K38 (.b false) (.i .i32 65533) (.i .i64 1) d17 s21) (K38 v13 v22 v23 d17 s21))))))))
noncomputable def B_rRunesl4 (I : Ids) (R : Rec) (v1 : AV) (K9 : Cur [5,6,7]) : Cur [5,6,7,8] → Cur [5,6,7,8] := fun K10 v11 v12 v13 v14 d15 s16 => (jn [] (B_rRunesj3 I R v1 v14 v11 v12 K10 v13) fun K40 => (pLen false v1 fun v41 => (bLss v14 v41 fun v42 => (eCond v42 (K40 d15 s16) (K9 v11 v12 v13 d15 s16)))))
noncomputable def B_rRunes (I : Ids) (R : Rec) (args : List AV) (s2 : ES) : Res := argsK [0] args (fun v1 => (jn [5,6,7] (B_rRunesj1 I R) fun K9 => (lp [5,6,7,8] 30000 (B_rRunesl4 I R v1 K9) (.ns) (.ns) (.b true) (.i .i64 0) [] s2)))
noncomputable def B_LBarej1 (I : Ids) (R : Rec) (v27 : AV) (v22 : AV) (v1 : AV) : Cur [] := fun d33 s34 => (pLen false v27 fun v35 => (pLen false v22 fun v36 => (bAdd v36 (.i .i64 1) fun v37 => (bEql v35 v37 fun v38 => (jv (fun v39 s40 => (jv (fun v42 s43 => (jv (fun v45 s46 => (jv (fun v49 s50 => (jv (fun v53 s54 => (jv (fun v57 s58 => (jv (fun v60 s61 => (jv (fun v64 s65 => (pPick v38 v64 (.b false) fun v68 => (eLeave d33 s65 fun s69 => (some (.ret v68 s69))))) fun K66 => eGuard v38 true (bEql v53 v60 fun v67 => K66 v67 s61) (K66 (.tup []) s61))) fun K62 => eGuard v38 true (pLen false v57 fun v63 => K62 v63 s58) (K62 (.tup []) s58))) fun K59 => eGuard v38 true (K59 v1 s54) (K59 (.tup []) s54))) fun K55 => eGuard v38 true (pLoad s50 false 1 v49 fun v56 => K55 v56 s50) (K55 (.tup []) s50))) fun K51 => eGuard v38 true (pIadrS s46 1 v39 v45 fun v52 => K51 v52 s46) (K51 (.tup []) s46))) fun K47 => eGuard v38 true (pLen false v42 fun v48 => K47 v48 s43) (K47 (.tup []) s43))) fun K44 => eGuard v38 true (K44 v22 s40) (K44 (.tup []) s40))) fun K41 => eGuard v38 true (K41 v27 s34) (K41 (.tup []) s34))))))
noncomputable def B_LBarej2 (I : Ids) (R : Rec) (v72 : AV) (K71 : Cur [12]) : Cur [] := fun d77 s78 => (bAdd v72 (.i .i64 1) fun v79 => (K71 v79 d77 s78))
noncomputable def B_LBarej3 (I : Ids) (R : Rec) (v72 : AV) (K71 : Cur [12]) (v27 : AV) (v22 : AV) : Cur [] := fun d75 s76 => (jn [] (B_LBarej2 I R v72 K71) fun K80 => (pLen false v27 fun v81 => (bGeq v72 v81 fun v82 => (jv (fun v83 s84 => (jv (fun v86 s87 => (jv (fun v89 s90 => (jv (fun v93 s94 => (jv (fun v97 s98 => (jv (fun v100 s101 => (jv (fun v103 s104 => (jv (fun v107 s108 => (jv (fun v111 s112 => (pPick v82 (.b true) v111 fun v115 => (eCond v115 (eLeave d75 s112 fun s116 => (some (.ret (.b false) s116))) (K80 d75 s112)))) fun K113 => eGuard v82 false (bNeq v93 v107 fun v114 => K113 v114 s108) (K113 (.tup []) s108))) fun K109 => eGuard v82 false (pLoad s104 false 1 v103 fun v110 => K109 v110 s104) (K109 (.tup []) s104))) fun K105 => eGuard v82 false (pIadrS s101 1 v97 v100 fun v106 => K105 v106 s101) (K105 (.tup []) s101))) fun K102 => eGuard v82 false (K102 v72 s98) (K102 (.tup []) s98))) fun K99 => eGuard v82 false (K99 v22 s94) (K99 (.tup []) s94))) fun K95 => eGuard v82 false (pLoad s90 false 1 v89 fun v96 => K95 v96 s90) (K95 (.tup []) s90))) fun K91 => eGuard v82 false (pIadrS s87 1 v83 v86 fun v92 => K91 v92 s87) (K91 (.tup []) s87))) fun K88 => eGuard v82 false (K88 v72 s84) (K88 (.tup []) s84))) fun K85 => eGuard v82 false (K85 v27 s76) (K85 (.tup []) s76)))))
noncomputable def B_LBarel4 (I : Ids) (R : Rec) (v27 : AV) (v22 : AV) (K70 : Cur []) : Cur [12] → Cur [12] := fun K71 v72 d73 s74 => (jn [] (B_LBarej3 I R v72 K71 v27 v22) fun K117 => (pLen false v22 fun v118 => (bLss v72 v118 fun v119 => (eCond v119 (K117 d73 s74) (K70 d73 s74)))))
noncomputable def B_LBarej5 (I : Ids) (R : Rec) (v27 : AV) (v22 : AV) (v1 : AV) : Cur [] := fun d31 s32 => (jn [] (B_LBarej1 I R v27 v22 v1) fun K70 => (lp [12] 30000 (B_LBarel4 I R v27 v22 K70) (.i .i64 0) d31 s32))
noncomputable def B_LBarej6 (I : Ids) (R : Rec) (v27 : AV) (v22 : AV) (v1 : AV) (v2 : AV) : Cur [] := fun d29 s30 => (jn [] (B_LBarej5 I R v27 v22 v1) fun K120 => (eCond v2 (pLen false v27 fun v121 => (bEql v121 (.i .i64 2) fun v122 => (jv (fun v123 s124 => (jv (fun v126 s127 => (jv (fun v130 s131 => (jv (fun v134 s135 => (pPick v122 v134 (.b false) fun v138 => (jv (fun v139 s140 => (jv (fun v142 s143 => (jv (fun v146 s147 => (jv (fun v150 s151 => (jv (fun v153 s154 => (jv (fun v157 s158 => (pPick v138 v157 (.b false) fun v161 => (eLeave d29 s158 fun s162 => (some (.ret v161 s162))))) fun K159 => eGuard v138 true (bEql v146 v153 fun v160 => K159 v160 s154) (K159 (.tup []) s154))) fun K155 => eGuard v138 true (pLen false v150 fun v156 => K155 v156 s151) (K155 (.tup []) s151))) fun K152 => eGuard v138 true (K152 v1 s147) (K152 (.tup []) s147))) fun K148 => eGuard v138 true (pLoad s143 false 1 v142 fun v149 => K148 v149 s143) (K148 (.tup []) s143))) fun K144 => eGuard v138 true (pIadrS s140 1 v139 (.i .i64 1) fun v145 => K144 v145 s140) (K144 (.tup []) s140))) fun K141 => eGuard v138 true (K141 v27 s135) (K141 (.tup []) s135)))) fun K136 => eGuard v122 true (bEql v130 (.i .i64 0) fun v137 => K136 v137 s131) (K136 (.tup []) s131))) fun K132 => eGuard v122 true (pLoad s127 false 1 v126 fun v133 => K132 v133 s127) (K132 (.tup []) s127))) fun K128 => eGuard v122 true (pIadrS s124 1 v123 (.i .i64 0) fun v129 => K128 v129 s124) (K128 (.tup []) s124))) fun K125 => eGuard v122 true (K125 v27 s30) (K125 (.tup []) s30)))) (K120 d29 s30)))
noncomputable def B_LBarej7 (I : Ids) (R : Rec) (v15 : AV) (v1 : AV) (v22 : AV) (v2 : AV) (v14 : AV) (v21 : AV) : Cur [] := fun d24 s25 => (pLoad s25 true 2 v15 fun v26 => (callK (R.f (I.f 39) [v26,v1] s25) fun v27 s28 => (jn [] (B_LBarej6 I R v27 v22 v1 v2) fun K163 => (pUn .not v14 fun v164 => (jv (fun v165 s166 => (jv (fun v168 s169 => (jv (fun v172 s173 => (pPick v164 (.b true) v172 fun v176 => (eCond v176 (jv (fun v177 s178 => (jv (fun v180 s181 => (jv (fun v184 s185 => (pPick v14 v184 (.b false) fun v188 => (eLeave d24 s185 fun s189 => (some (.ret v188 s189))))) fun K186 => eGuard v14 true (bEql v180 (.i .i64 0) fun v187 => K186 v187 s181) (K186 (.tup []) s181))) fun K182 => eGuard v14 true (pLen false v177 fun v183 => K182 v183 s178) (K182 (.tup []) s178))) fun K179 => eGuard v14 true (K179 v27 s173) (K179 (.tup []) s173)) (K163 d24 s173)))) fun K174 => eGuard v164 false (bEql v168 (.i .i64 0) fun v175 => K174 v175 s169) (K174 (.tup []) s169))) fun K170 => eGuard v164 false (pLen false v165 fun v171 => K170 v171 s166) (K170 (.tup []) s166))) fun K167 => eGuard v164 false (K167 v21 s28) (K167 (.tup []) s28))))))
noncomputable def B_LBarej8 (I : Ids) (R : Rec) (v1 : AV) (v2 : AV) : Cur [5] := fun v8 d9 s10 => (callK (R.f (I.f 30) [v8] s10) fun v11 s12 => (pExt v11 0 fun v13 => (pExt v11 1 fun v14 => (pRow s12 (I.t 8) [(.ns),(.ns)] fun v15 s16 => (pStore s16 2 v15 v13 fun v17 s18 => (callK (R.f (I.f 40) [v1] s18) fun v19 s20 => (pExt v19 0 fun v21 => (pExt v19 1 fun v22 => (pExt v19 2 fun v23 => (jn [] (B_LBarej7 I R v15 v1 v22 v2 v14 v21) fun K190 => (jv (fun v191 s192 => (jv (fun v194 s195 => (jv (fun v198 s199 => (pPick v2 v198 (.b false) fun v202 => (eCond v202 (eLeave d9 s199 fun s203 => (some (.ret (.b true) s203))) (K190 d9 s199)))) fun K200 => eGuard v2 true (bGtr v194 (.i .i64 50) fun v201 => K200 v201 s195) (K200 (.tup []) s195))) fun K196 => eGuard v2 true (pLen false v191 fun v197 => K196 v197 s192) (K196 (.tup []) s192))) fun K193 => eGuard v2 true (K193 v21 s20) (K193 (.tup []) s20))))))))))))
noncomputable def B_LBarej9 (I : Ids) (R : Rec) (v1 : AV) (v2 : AV) : Cur [] := fun d6 s7 => (jn [5] (B_LBarej8 I R v1 v2) fun K204 => (eCond v2 (K204 (.s [55,58,32,62,60]) d6 s7) (K204 (.s []) d6 s7)))
noncomputable def B_LBarej10 (I : Ids) (R : Rec) (v1 : AV) (v2 : AV) : Cur [] := fun d4 s5 => (jn [] (B_LBarej9 I R v1 v2) fun K205 => (pLen false v1 fun v206 => (bGtr v206 (.i .i64 200) fun v207 => (eCond v207 (eLeave d4 s5 fun s208 => (some (.ret (.b true) s208))) (K205 d4 s5)))))
noncomputable def B_LBare (I : Ids) (R : Rec) (args : List AV) (s3 : ES) : Res := argsK [0,1] args (fun v1 v2 => (jn [] (B_LBarej10 I R v1 v2) fun K209 => (callK (R.f (I.f 31) [] s3) fun v210 s211 => (pUn .not v210 fun v212 => (eCond v212 (some (.ret (.b false) s211)) (K209 [] s211))))))
end Hb
end

section
set_option linter.unusedVariables false
set_option linter.unusedSimpArgs false
set_option linter.constructorNameAsVariable false
set_option autoImplicit false
set_option linter.unusedVariables false
set_option linter.unusedSimpArgs false
namespace Hb
open Go
def rightP (a b : Int) : Bool := decide (0 ≤ a) && (decide (a ≤ b) && decide (b ≤ 1114111))
def rightF : List AV → Option AV
  | [.agg [.i .i32 a, .i .i32 b]] => some (.b (rightP a b))
  | _ => none
theorem right_c (I : Ids) (R : Rec) (as : List AV) (v : AV) (h : rightF as = some v) : Tot (fun v0 s0 => ∃ v', Inl Fla s0.st.1 v0 v' ∧ v' = v) (B_right I R as (S [] 0)) := by
  unfold rightF at h
  split at h
  case h_2 => cases h
  rename_i a b
  cases h
  have : B_right I R [.agg [.i .i32 a, .i .i32 b]] (S [] 0) = some (.ret (.b (rightP a b)) (S [some (.cells 0 false (I.t 0) 0 [.i .i32 a, .i .i32 b])] 1)) := by
    unfold B_right rightP
    rw [args1, pBox_S (AV.cells_agg _) (by simp)]
    simp only [jv_d, List.length_nil, List.length_cons, List.nil_append, Nat.zero_add, Nat.reduceAdd]
    have hb : ([some (.cells 0 false (I.t 0) 0 [.i .i32 a, .i .i32 b])] : List (Option Blk))[0]? = some (some (.cells 0 false (I.t 0) 0 [.i .i32 a, .i .i32 b])) := rfl
    simp (disch := simp) only [eGuard_b, pPick_b, bLeq_i, bGeq_i, cond_true, cond_false, Bool.not_false, Bool.cond_self, List.getElem?_cons_zero, List.getElem?_cons_succ, Nat.zero_add, Nat.add_zero, Nat.zero_mul, kont_v, pFadr_p hb rfl, pLoad_Sf hb rfl]
    cases decide (0 ≤ a) <;> simp (disch := simp) only [cond_true, cond_false, Bool.cond_self]
    · simp
    · cases decide (a ≤ b) <;> simp (disch := simp) only [cond_true, cond_false, Bool.cond_self]
      · simp
      · cases decide (b ≤ 1114111) <;> simp
  rw [this]
  exact Tot.ret ⟨_, .clo _ (by simp only [Fla]), rfl⟩
def has1P (p : Int × Int) (r : Int) : Bool := rightP p.1 p.2 && (decide (p.1 ≤ r) && decide (r ≤ p.2))
def has1F : List AV → Option AV
  | [.agg [.i .i32 a, .i .i32 b], .pe [.i .i32 r] 1 0 0] => some (.b (has1P (a, b) r))
  | _ => none
theorem has1_c (I : Ids) (R : Rec) (hR : ∀ args s, R.f (I.f 0) args s = flatOv rightF R args s) (as : List AV) (v : AV) (h : has1F as = some v) : Tot (fun v0 s0 => ∃ v', Inl Fla s0.st.1 v0 v' ∧ v' = v) (B_Has1 I R as (S [] 0)) := by
  unfold has1F at h
  split at h
  case h_2 => cases h
  rename_i a b r
  cases h
  have : B_Has1 I R [.agg [.i .i32 a, .i .i32 b], .pe [.i .i32 r] 1 0 0] (S [] 0) = some (.ret (.b (has1P (a, b) r)) (S [some (.cells 0 false (I.t 0) 0 [.i .i32 a, .i .i32 b])] 1)) := by
    unfold B_Has1 has1P
    rw [args2, pBox_S (AV.cells_agg _) (by simp)]
    simp only [jv_d, List.length_nil, List.length_cons, List.nil_append, Nat.zero_add, Nat.reduceAdd]
    have hb : ([some (.cells 0 false (I.t 0) 0 [.i .i32 a, .i .i32 b])] : List (Option Blk))[0]? = some (some (.cells 0 false (I.t 0) 0 [.i .i32 a, .i .i32 b])) := rfl
    have hr : ∀ s, R.f (I.f 0) [.agg [.i .i32 a, .i .i32 b]] s = some (.ret (.b (rightP a b)) s) := fun s => by
      rw [hR]; exact flatOv_c (by simp only [CloL, Clo, and_self]) rfl
    simp (disch := simp) only [callK_ret, eGuard_b, pPick_b, bLeq_i, bGeq_i, cond_true, cond_false, Bool.not_false, Bool.cond_self, List.getElem?_cons_zero, List.getElem?_cons_succ, List.drop_zero, List.take_succ_cons, List.take_nil, Nat.zero_add, Nat.add_zero, Nat.zero_mul, Nat.mul_one, kont_v, pFadr_p hb rfl, pLoad_Sf hb rfl, pLoad_St hb rfl, hr, pLoad_pe, loadK_fm]
    cases rightP a b <;> simp (disch := simp) only [cond_true, cond_false, Bool.cond_self]
    · simp
    · cases decide (a ≤ r) <;> simp (disch := simp) only [cond_true, cond_false, Bool.cond_self]
      · simp
      · cases decide (r ≤ b) <;> simp
  rw [this]
  exact Tot.ret ⟨_, .clo _ (by simp only [Fla]), rfl⟩
theorem IFR_run (I : Ids) (R : Rec) {g : Nat} {caps : List AV} {p : Int × Int → Bool} {l : List (Int × Int)} {v : AV} {s : ES} (hv : encRange.decS v = some l) (hl : l.length < 30000)
    (hg : ∀ x ∈ l, R.g g (.agg [.i .i32 x.1, .i .i32 x.2] :: caps) s = some (.ret (.b (p x)) s)) : B_IFR I R [v, .fn (.func g) [] caps] s = some (.ret (.i .i64 (idxP p l 0)) s) := by
  unfold B_IFR
  simp only [args2, jn_d, encRange.pLen_v hv]
  have key : ∀ (m : List (Int × Int)) (i fuel : Nat), m = l.drop i → i + m.length = l.length → m.length < fuel →
      lp [8] fuel (B_IFRl4 I R (.i .i64 (l.length : Nat)) v (.fn (.func g) [] caps) (B_IFRj1 I R)) (.i .i64 (i : Nat)) [] s = some (.ret (.i .i64 (idxP p m i)) s) := by
    intro m
    induction m with
    | nil =>
      intro i fuel he hi hf
      cases fuel with
      | zero => omega
      | succ f =>
        simp only [List.length_nil] at hi
        rw [lp_s]
        unfold B_IFRl4 B_IFRj1
        have : decide ((i : Int) < (l.length : Int)) = false := by simp; omega
        simp only [jn_d, eCond_b, eLeave_nil, bLss_i, cond_false, this]
        rfl
    | cons x m ih =>
      intro i fuel he hi hf
      cases fuel with
      | zero => simp at hf
      | succ f =>
        simp only [List.length_cons] at hi hf
        have hlt : i < l.length := by omega
        have hx : l[i]? = some x := by
          have := congrArg List.head? he
          rw [List.head?_drop] at this
          exact this.symm
        have hmem : x ∈ l := List.mem_of_getElem? hx
        have hm : m = l.drop (i + 1) := by
          have := congrArg List.tail he
          rw [List.tail_drop] at this
          exact this
        have ih' := ih (i + 1) f hm (by omega) (by omega)
        rw [lp_s]
        generalize lp [8] f _ = K at ih' ⊢
        have hd : decide ((i : Int) < (l.length : Int)) = true := by simp; omega
        have hgx := hg x hmem
        simp only [B_IFRl4, B_IFRj3, B_IFRj2, jn_d, callK_ret, eCond_b, eLeave_nil, bAdd_i, bLss_i, cond_true, List.nil_append, List.cons_append, hd, encRange.iadr (kk := 2) hv rfl rfl hlt, encRange.load_t (kk := 2) rfl hx, eCallV_fn, show encRange.enc x = [.i .i32 x.1, .i .i32 x.2] from rfl, hgx, idxP]
        cases hp : p x with
        | true => simp only [cond_true, if_true]
        | false =>
          simp only [cond_false, Bool.false_eq_true, if_false]
          rw [wrap64 (by omega) (by omega), show ((i : Nat) : Int) + 1 = ((i + 1 : Nat) : Int) from by omega]
          exact ih'
  exact key l 0 30000 (by simp) (by simp) hl
def hasR (l : List (Int × Int)) (r : Int) : Bool := l.any fun p => has1P p r
def hasF : List AV → Option AV
  | [v, .i .i32 r] => match encRange.decS v with
    | some l => if l.length < 30000 then some (.b (hasR l r)) else none
    | none => none
  | _ => none
theorem has_c (I : Ids) (R R1 R2 : Rec) (h1 : ∀ args s, R.f (I.f 1) args s = B_CFR I R1 args s) (h2 : ∀ args s, R1.f (I.f 3) args s = B_IFR I R2 args s) (h3 : ∀ args s, R2.g (I.f 2) args s = flatOv has1F R2 args s)
    (as : List AV) (v : AV) (h : hasF as = some v) : Tot (fun v0 s0 => ∃ v', Inl Fla s0.st.1 v0 v' ∧ v' = v) (B_Has I R as (S [] 0)) := by
  unfold hasF at h
  split at h
  case h_2 => cases h
  rename_i w r
  split at h
  case h_2 => cases h
  rename_i l hv
  split at h
  case isFalse => cases h
  rename_i hl
  cases h
  have : B_Has I R [w, .i .i32 r] (S [] 0) = some (.ret (.b (hasR l r)) (S [some (.cells 0 false (I.t 1) 0 [.i .i32 r])] 1)) := by
    unfold B_Has
    rw [args2, pBox_S (AV.cells_i _ _) (by simp)]
    simp only [List.length_nil, List.length_cons, List.nil_append, Nat.zero_add, h1]
    unfold B_CFR
    simp only [args2, h2]
    have hb : ([some (.cells 0 false (I.t 1) 0 [.i .i32 r])] : List (Option Blk))[0]? = some (some (.cells 0 false (I.t 1) 0 [.i .i32 r])) := rfl
    rw [IFR_run I R2 (p := fun p => has1P p r) hv hl (fun x hx => by
      rw [h3]
      refine flatOv_S (as := [.agg [.i .i32 x.1, .i .i32 x.2], .pe [.i .i32 r] 1 0 0]) ?_ rfl
      rfl)]
    simp only [callK_ret, bGeq_i, idxP_nonneg]
    rfl
  rw [this]
  exact Tot.ret ⟨_, .clo _ (by simp only [Fla]), rfl⟩
end Hb
end

section
set_option linter.unusedVariables false
set_option linter.unusedSimpArgs false
set_option linter.constructorNameAsVariable false
set_option autoImplicit false
set_option linter.unusedVariables false
set_option linter.unusedSimpArgs false
namespace Hb
open Go
theorem eCallV_fy (Rg : FuncId → List AV → ES → Res) (Rb : Nat → XC → (Nat → AV) → ES → Res) (r st : Nat) (args : List AV) (s : ES) (k : KV) : eCallV Rg Rb (.fy r st) args s k = eRound Rb r st args s k := rfl
theorem round_S {Rb : Nat → XC → (Nat → AV) → ES → Res} {l l1 l2 : List (Option Blk)} {nx nx1 nx2 r st N dr ds : Nat} {ρ f f' : Nat → AV} {ps : List Nat} {xa xb : XC} {args : List AV}
    (h0 : l[r]? = some (some (.loop st .ready none N ρ ps xa xb dr ds))) (hp : args.length = ps.length)
    (hA : Rb N xa (putAllB ρ ps args) (S l nx) = some (.ex .normal f (S l1 nx1))) (h1 : l1[r]? = some (some (.loop st .ready none N ρ ps xa xb dr ds))) (hl1 : l1.length ≤ 999999999)
    (hB : Rb N xb f (S (l1.set r (some (.loop st .busy none N ρ ps xa xb dr ds))) nx1) = some (.ex .normal f' (S l2 nx2))) (h2 : l2[r]? = some (some (.loop st .busy none N ρ ps xa xb dr ds))) (hl2 : l2.length ≤ 999999999) (k : KV) :
    eRound Rb r st args (S l nx) k = k (.b true) (S (l2.set r (some (.loop st .ready none N ρ ps xa xb dr ds))) nx2) := by
  unfold eRound
  rw [S_sAt (st := st) h0 rfl]
  simp only [lenR_eq, hp, beqN, decide_true, cond_true, hA, exK_ex]
  unfold eRoundMid
  simp only
  rw [S_sAt (st := st) h1 rfl]
  simp only
  rw [S_put ((List.getElem?_eq_some_iff.1 h1).1) hl1, hB]
  simp only [exK_ex]
  unfold eRoundEnd
  rw [S_sAt (st := st) h2 rfl]
  simp only
  rw [S_put ((List.getElem?_eq_some_iff.1 h2).1) hl2]
theorem pRange_S {Rh : FuncId → List AV → ES → Res} {N gf nx : Nat} {cap : List AV} {ps : List Nat} {ρ : Nat → AV} {xa xb : XC} {d : List (Nat × Nat)} {l : List (Option Blk)} {kn : List (Nat × Nat) → ES → Res} {ke : XExit → List (Nat × Nat) → ES → Res}
    (hps : allLt ps N = true) (hl : l.length + 2 ≤ 999999999) :
    pRange Rh N (.fn (.func gf) [] cap) ps ρ xa xb d (S l nx) kn ke = callK (Rh gf (.fy (l.length + 1) (nx + 1) :: cap) (S (l ++ [some (.dfr nx), some (.loop (nx + 1) .ready none N ρ ps xa xb l.length nx)]) (nx + 2))) fun _ s3 =>
      eRangeEnd (l.length + 1) (nx + 1) ((l.length, nx) :: d) s3 kn ke := by
  unfold pRange
  simp only
  rw [hps, cond_true, S_push (by omega), S_push (by simp; omega)]
  simp
theorem eRangeEnd_S {l : List (Option Blk)} {nx r st N dr ds : Nat} {ρ : Nat → AV} {ps : List Nat} {xa xb : XC} {d : List (Nat × Nat)} {kn : List (Nat × Nat) → ES → Res} {ke : XExit → List (Nat × Nat) → ES → Res}
    (h : l[r]? = some (some (.loop st .ready none N ρ ps xa xb dr ds))) (hl : l.length ≤ 999999999) : eRangeEnd r st d (S l nx) kn ke = kn d (S (l.set r none) nx) := by
  unfold eRangeEnd
  rw [S_sAt (st := st) h rfl]
  show (pPut (S l nx) r none fun s' => kn d s') = _
  rw [S_put ((List.getElem?_eq_some_iff.1 h).1) hl]
theorem eLeave_S {l : List (Option Blk)} {nx r st : Nat} {d : List (Nat × Nat)} {k : ES → Res} (h : l[r]? = some (some (.dfr st))) (hl : l.length ≤ 999999999) : eLeave ((r, st) :: d) (S l nx) k = eLeave d (S (l.set r none) nx) k := by
  show (sAt (S l nx) r st fun b => (match b with | .dfr _ => pPut (S l nx) r none (fun s => eLeave d s k) | _ => none)) = _
  rw [S_sAt (st := st) h rfl]
  simp only
  rw [S_put ((List.getElem?_eq_some_iff.1 h).1) hl]
theorem Enc.cells_of {α : Type} (E : Enc α) {v : AV} {l : List α} (h : E.decS v = some l) : v.cells = some [v] := by
  rcases E.decS_inv h with ⟨_, rfl | rfl⟩ | rfl <;> rfl
abbrev encR32 : Enc Int := encI .i32
abbrev encI64 : Enc Int := encI .i64
def stepV (l : List Int) (back : Bool) (z : Nat) : Int × Int × Bool :=
  cond back (if z = 0 then (0, 0, false) else ((l[z - 1]?).getD 0, (z : Int) - 1, true)) (if z = l.length then (0, 0, false) else ((l[z]?).getD 0, (z : Int) + 1, true))
def stepF : List AV → Option AV
  | [.agg [t, .b back], .i .i64 z] => match encR32.decS t with
    | some l => if 0 ≤ z ∧ z ≤ l.length ∧ l.length < 100000 then some (.tup [.i .i32 (stepV l back z.toNat).1, .i .i64 (stepV l back z.toNat).2.1, .b (stepV l back z.toNat).2.2]) else none
    | none => none
  | _ => none
theorem step_c (I : Ids) (R : Rec) (as : List AV) (v : AV) (h : stepF as = some v) : Tot (fun v0 s0 => ∃ v', Inl Fla s0.st.1 v0 v' ∧ v' = v) (B_mstep I R as (S [] 0)) := by
  unfold stepF at h
  split at h
  case h_2 => cases h
  rename_i t back z
  split at h
  case h_2 => cases h
  rename_i l hv
  split at h
  case isFalse => cases h
  rename_i hz
  obtain ⟨hz0, hz1, hz2⟩ := hz
  cases h
  obtain ⟨m, rfl⟩ : ∃ m : Nat, z = m := ⟨z.toNat, by omega⟩
  simp only [Int.toNat_natCast]
  have hm : m ≤ l.length := by omega
  have : B_mstep I R [.agg [t, .b back], .i .i64 (m : Nat)] (S [] 0) = some (.ret (.tup [.i .i32 (stepV l back m).1, .i .i64 (stepV l back m).2.1, .b (stepV l back m).2.2]) (S [some (.cells 0 false (I.t 2) 0 [t, .b back])] 1)) := by
    unfold B_mstep
    rw [args2, pBox_S (AV.cells_agg _) (by simp)]
    simp only [jn_d, eCond_b, bEql_i, List.length_nil, List.length_cons, List.nil_append, Nat.zero_add, Nat.reduceAdd]
    have hb : ([some (.cells 0 false (I.t 2) 0 [t, .b back])] : List (Option Blk))[0]? = some (some (.cells 0 false (I.t 2) 0 [t, .b back])) := rfl
    simp (disch := simp) only [jn_d, eCond_b, eLeave_nil, bAdd_i, bSub_i, bEql_i, List.getElem?_cons_zero, List.getElem?_cons_succ, Nat.zero_add, Nat.add_zero, Nat.zero_mul, kont_v, pFadr_p hb rfl, pLoad_Sf hb rfl, B_mstepj2, B_mstepj1, B_mstepj3, encR32.pLen_v hv]
    cases back with
    | true =>
      simp only [cond_true, stepV]
      by_cases h0 : m = 0
      · subst h0; simp [cond_true]
      · have hd : decide ((m : Int) = 0) = false := by simp; omega
        have hx : l[m - 1]? = some ((l[m - 1]?).getD 0) := by
          rw [List.getElem?_eq_getElem (by omega)]; rfl
        simp only [hd, cond_false, if_neg h0]
        rw [wrap64 (by omega) (by omega), encR32.iadr (kk := 1) (i := m - 1) hv rfl (by omega) (by omega), encR32.load_f (kk := 1) rfl hx (by decide)]
        rfl
    | false =>
      simp only [cond_false, stepV]
      by_cases h0 : m = l.length
      · subst h0; simp [cond_true]
      · have hd : decide ((m : Int) = (l.length : Int)) = false := by simp; omega
        have hx : l[m]? = some ((l[m]?).getD 0) := by
          rw [List.getElem?_eq_getElem (by omega)]; rfl
        simp only [hd, cond_false, if_neg h0]
        rw [encR32.iadr (kk := 1) (i := m) hv rfl rfl (by omega), encR32.load_f (kk := 1) rfl hx (by decide)]
        rw [wrap64 (by omega) (by omega)]
        rfl
  rw [this]
  exact Tot.ret ⟨_, .clo _ (by simp only [Fla, FlaL, and_self]), rfl⟩
def noneF (I : Ids) : List AV → Option (Nat × Nat × Nat × List AV)
  | [.agg [t, .b back]] => match encR32.decS t with
    | some l => if l.length < 100000 then some (I.t 3, l.length + 1, 1, List.replicate (l.length + 1) (.b false)) else none
    | none => none
  | _ => none
theorem FlaL_rep (n : Nat) (b : Bool) : FlaL (List.replicate n (.b b)) := by
  rw [FlaL_iff]
  intro x hx
  rw [List.eq_of_mem_replicate hx]
  simp only [Fla]
theorem InlL.same {σ : Store} : ∀ {l : List AV}, FlaL l → InlL Fla σ l l
  | [], _ => .nil
  | x :: xs, h => by simp only [FlaL] at h; exact .cons _ _ _ _ (.clo _ h.1) (InlL.same h.2)
theorem none_c (I : Ids) (R : Rec) (as : List AV) (T n k : Nat) (cs : List AV) (h : noneF I as = some (T, n, k, cs)) : (n = 0 → Tot (fun v _ => v = .ns) (B_mnone I R as (S [] 0))) ∧ (n ≠ 0 → Tot (IsRow Fla T n k cs) (B_mnone I R as (S [] 0))) := by
  unfold noneF at h
  split at h
  case h_2 => cases h
  rename_i t back
  split at h
  case h_2 => cases h
  rename_i l hv
  split at h
  case isFalse => cases h
  rename_i hl
  cases h
  refine ⟨fun h => by omega, fun _ => ?_⟩
  have : B_mnone I R [.agg [t, .b back]] (S [] 0) = some (.ret (.gr 1 1 0 (l.length + 1) 1) (S [some (.cells 0 false (I.t 2) 0 [t, .b back]), some (.cells 1 false (I.t 3) 0 (List.replicate (l.length + 1) (.b false)))] 2)) := by
    unfold B_mnone
    rw [args1, pBox_S (AV.cells_agg _) (by simp)]
    simp only [List.length_nil, List.length_cons, List.nil_append, Nat.zero_add, Nat.reduceAdd]
    have hb : ([some (.cells 0 false (I.t 2) 0 [t, .b back])] : List (Option Blk))[0]? = some (some (.cells 0 false (I.t 2) 0 [t, .b back])) := rfl
    simp (disch := simp) only [bAdd_i, List.getElem?_cons_zero, Nat.add_zero, Nat.zero_mul, kont_v, pFadr_p hb rfl, pLoad_Sf hb rfl, encR32.pLen_v hv]
    rw [wrap64 (by omega) (by omega)]
    unfold pMk
    simp only
    rw [if_pos (by omega), frcLA_eq, frcN_eq, S_push (by simp)]
    have e1 : ((l.length : Nat) + 1 : Int).toNat = l.length + 1 := by omega
    have e2 : (List.map (fun j => (([AV.b false] : List AV)[j % 1]?).getD AV.u) (List.range (l.length + 1))) = List.replicate (l.length + 1) (.b false) := by
      apply List.ext_getElem
      · simp
      · intro i h1 h2
        simp [Nat.mod_one]
    simp only [e1, List.length_cons, List.length_nil, Nat.zero_add, Nat.mul_one, e2]
    rfl
  rw [this]
  refine Tot.ret ⟨1, 1, 1, _, rfl, ?_, InlL.same (FlaL_rep _ _)⟩
  rw [S_st]
  rfl
end Hb
end

section
set_option linter.unusedVariables false
set_option linter.unusedSimpArgs false
set_option linter.constructorNameAsVariable false
set_option autoImplicit false
set_option linter.unusedVariables false
set_option linter.unusedSimpArgs false
namespace Hb
open Go
def trues : List Bool → Nat → List Nat
  | [], _ => []
  | b :: bs, i => cond b (i :: trues bs (i + 1)) (trues bs (i + 1))
theorem mall1_iter {I : Ids} {R : Rec} {v cap : AV} {bs : List Bool} {r st : Nat} (hv : encB.decS v = some bs) (hl : bs.length < 30000) (Inv : List Nat → ES → Prop)
    (hround : ∀ a s z, Inv a s → a.length ≤ z → z < bs.length → ∃ s', Inv (a ++ [z]) s' ∧ ∀ k, eRound R.b r st [.i .i64 (z : Nat)] s k = k (.b true) s') (s : ES) (h0 : Inv [] s) (hcap : ∀ k, pLoad s false 1 cap k = k v) :
    ∃ s', Inv (trues bs 0) s' ∧ B_mall1 I R [.fy r st, cap] s = some (.ret (.tup []) s') := by
  unfold B_mall1
  simp only [args2, hcap, encB.pLen_v hv]
  have key : ∀ (m : List Bool) (i fuel : Nat) (a : List Nat) (s : ES), m = bs.drop i → i + m.length = bs.length → m.length < fuel → Inv a s → a.length ≤ i →
      ∃ s', Inv (a ++ trues m i) s' ∧ lp [7] fuel (B_mall1l3 I R (.i .i64 (bs.length : Nat)) v (.fy r st)) (.i .i64 (i : Nat)) [] s = some (.ret (.tup []) s') := by
    intro m
    induction m with
    | nil =>
      intro i fuel a s he hi hf ha hal
      cases fuel with
      | zero => omega
      | succ f =>
        simp only [List.length_nil] at hi
        refine ⟨s, by simpa [trues] using ha, ?_⟩
        rw [lp_s]
        have hd : decide ((i : Int) < (bs.length : Int)) = false := by simp; omega
        simp only [B_mall1l3, jn_d, eCond_b, eLeave_nil, bLss_i, cond_false, hd]
    | cons x m ih =>
      intro i fuel a s he hi hf ha hal
      cases fuel with
      | zero => simp at hf
      | succ f =>
        simp only [List.length_cons] at hi hf
        have hlt : i < bs.length := by omega
        have hx : bs[i]? = some x := by
          have := congrArg List.head? he
          rw [List.head?_drop] at this
          exact this.symm
        have hm : m = bs.drop (i + 1) := by
          have := congrArg List.tail he
          rw [List.tail_drop] at this
          exact this
        have ih' := fun a s ha hal => ih (i + 1) f a s hm (by omega) (by omega) ha hal
        rw [lp_s]
        generalize lp [7] f _ = K at ih' ⊢
        have hd : decide ((i : Int) < (bs.length : Int)) = true := by simp; omega
        have hw : IntKind.i64.wrap ((i : Nat) + 1 : Int) = ((i + 1 : Nat) : Int) := by rw [wrap64 (by omega) (by omega)]; omega
        simp only [B_mall1l3, B_mall1j2, B_mall1j1, jn_d, jv_d, eCond_b, eGuard_b, pPick_b, eLeave_nil, bAdd_i, bLss_i, cond_true, cond_false, kont_v, hd, encB.iadr (kk := 1) hv rfl rfl hlt, encB.load_f (kk := 1) (o := 0) rfl hx (by decide), show (encB.enc x)[0]? = some (.b x) from rfl]
        cases x with
        | true =>
          obtain ⟨s', hi', hr⟩ := hround a s i ha hal hlt
          obtain ⟨s2, h1, h2⟩ := ih' (a ++ [i]) s' hi' (by simp; omega)
          refine ⟨s2, by simpa [trues] using h1, ?_⟩
          simp only [eCond_b, pUn_not, cond_true, cond_false, Bool.not_true, eCallV_fy, hr, hw]
          exact h2
        | false =>
          obtain ⟨s2, h1, h2⟩ := ih' a s ha (by omega)
          refine ⟨s2, by simpa [trues] using h1, ?_⟩
          simp only [cond_false, Bool.cond_self, hw]
          exact h2
  obtain ⟨s', h1, h2⟩ := key bs 0 30000 [] s (by simp) (by simp) hl h0 (by simp)
  exact ⟨s', by simpa using h1, h2⟩
def markV (l : List Int) (back : Bool) (set : List (Int × Int)) (out : List Bool) (i : Nat) : List Bool :=
  cond ((stepV l back i).2.2 && hasR set (stepV l back i).1) (out.set (stepV l back i).2.1.toNat true) out
def oneV (l : List Int) (back : Bool) (set : List (Int × Int)) (bs : List Bool) : List Bool := (trues bs 0).foldl (markV l back set) (List.replicate (l.length + 1) false)
theorem markV_len (l : List Int) (back : Bool) (set : List (Int × Int)) (out : List Bool) (i : Nat) : (markV l back set out i).length = out.length := by
  unfold markV
  cases ((stepV l back i).2.2 && hasR set (stepV l back i).1) <;> simp
def oneF (I : Ids) : List AV → Option (Nat × Nat × Nat × List AV)
  | [.agg [t, .b back], w, u] => match encR32.decS t, encRange.decS w, encB.decS u with
    | some l, some set, some bs => if l.length < 20000 ∧ set.length < 30000 ∧ bs.length = l.length + 1 then some (I.t 3, l.length + 1, 1, (oneV l back set bs).map .b) else none
    | _, _, _ => none
  | _ => none
theorem stepV_to {l : List Int} {back : Bool} {z : Nat} (hz : z ≤ l.length) (h : (stepV l back z).2.2 = true) : ∃ m : Nat, (stepV l back z).2.1 = (m : Nat) ∧ m ≤ l.length := by
  unfold stepV at h ⊢
  cases back with
  | true =>
    simp only [cond_true] at h ⊢
    split at h
    · cases h
    · rename_i h0
      rw [if_neg h0]
      exact ⟨z - 1, by simp only; omega, by omega⟩
  | false =>
    simp only [cond_false] at h ⊢
    split at h
    · cases h
    · rename_i h0
      rw [if_neg h0]
      exact ⟨z + 1, by simp only; omega, by omega⟩
theorem one_c (I : Ids) (R R1 R2 : Rec) (hnone : ∀ args s, R.f (I.f 4) args s = rowOv (noneF I) R args s) (hall : ∀ args s, R.f (I.f 5) args s = B_mall I R1 args s) (hh : ∀ args s, R.h (I.f 8) args s = B_mall1 I R1 args s)
    (hA : ∀ f s, R1.b 34 (I.x 0) f s = C0_mone I R2 f s) (hB : ∀ f s, R1.b 34 (I.x 1) f s = C1_mone I R2 f s) (hstep : ∀ args s, R2.f (I.f 6) args s = flatOv stepF R2 args s) (hhas : ∀ args s, R2.f (I.f 7) args s = flatOv hasF R2 args s)
    (as : List AV) (T n k : Nat) (cs : List AV) (h : oneF I as = some (T, n, k, cs)) : (n = 0 → Tot (fun v _ => v = .ns) (B_mone I R as (S [] 0))) ∧ (n ≠ 0 → Tot (IsRow Fla T n k cs) (B_mone I R as (S [] 0))) := by
  unfold oneF at h
  split at h
  case h_2 => cases h
  rename_i t back w u0
  split at h
  case h_2 => cases h
  rename_i l set bs hl hs hb
  split at h
  case isFalse => cases h
  rename_i hlen
  obtain ⟨hlen, hsl, hbl⟩ := hlen
  cases h
  refine ⟨fun h => by omega, fun _ => ?_⟩
  -- the store during the rounds
  let ρ : Nat → AV := envL [(3, .p 0 0 2 0 0), (4, .p 1 1 1 0 0), (7, .p 3 3 1 0 0)]
  let lpb : LoopState → Blk := fun q => .loop 6 q none 34 ρ [16] (I.x 0) (I.x 1) 5 5
  let L : LoopState → List Bool → List (Option Blk) := fun q o => [some (.cells 0 false (I.t 2) 0 [t, .b back]), some (.cells 1 false (I.t 4) 0 [w]), some (.cells 2 false (I.t 3) 0 (o.map .b)), some (.cells 3 false (I.t 5) 0 [.gr 2 2 0 (l.length + 1) 1]),
    some (.cells 4 false (I.t 5) 0 [u0]), some (.dfr 5), some (lpb q)]
  have hbody : ∀ (o : List Bool) (z : Nat), o.length = l.length + 1 → z ≤ l.length → C1_mone I R2 (envL [(3, .p 0 0 2 0 0), (4, .p 1 1 1 0 0), (7, .p 3 3 1 0 0), (8, .i .i64 (z : Nat))]) (S (L .busy o) 7) = some (.ex .normal (envL []) (S (L .busy (markV l back set o z)) 7)) := by
    intro o z ho hz
    have g0 : (L .busy o)[0]? = some (some (.cells 0 false (I.t 2) 0 [t, .b back])) := rfl
    have g1 : (L .busy o)[1]? = some (some (.cells 1 false (I.t 4) 0 [w])) := rfl
    have g2 : (L .busy o)[2]? = some (some (.cells 2 false (I.t 3) 0 (o.map .b))) := rfl
    have g3 : (L .busy o)[3]? = some (some (.cells 3 false (I.t 5) 0 [.gr 2 2 0 (l.length + 1) 1])) := rfl
    have c1 : ∀ s, R2.f (I.f 6) [.agg [t, .b back], .i .i64 (z : Nat)] s = some (.ret (.tup [.i .i32 (stepV l back z).1, .i .i64 (stepV l back z).2.1, .b (stepV l back z).2.2]) s) := fun s => by
      rw [hstep]
      refine flatOv_c (by simp only [CloL, Clo, and_self, and_true]; exact encR32.clo_of hl) ?_
      simp only [stepF, hl, Int.toNat_natCast]
      rw [if_pos (by omega)]
    have c2 : ∀ s x, R2.f (I.f 7) [w, .i .i32 x] s = some (.ret (.b (hasR set x)) s) := fun s x => by
      rw [hhas]
      refine flatOv_c (by simp only [CloL, Clo, and_self, and_true]; exact encRange.clo_of hs) ?_
      simp only [hasF, hs, hsl, if_true]
    unfold C1_mone
    show (pLoad (S (L .busy o) 7) true 2 (.p 0 0 2 0 0) fun v6 => callK (R2.f (I.f 6) [v6, .i .i64 (z : Nat)] (S (L .busy o) 7)) _) = _
    rw [pLoad_St g0 rfl (by decide) (by simp)]
    simp only [jv_d, callK_ret, List.drop_zero, List.take_succ_cons, List.take_nil, Nat.add_zero, Nat.zero_mul, c1]
    rw [pExt_t rfl, pExt_t rfl, pExt_t rfl]
    simp only [eCond_b, eGuard_b, pPick_b, cond_true, cond_false]
    unfold markV
    cases hok : (stepV l back z).2.2 with
    | false => simp only [cond_false, Bool.cond_self, Bool.false_and]
    | true =>
      simp only [cond_true, Bool.true_and]
      rw [pLoad_Sf g1 rfl (by decide) (by simp)]
      simp only [callK_ret, eCond_b, List.getElem?_cons_zero, Nat.add_zero, Nat.mul_one, kont_v, c2]
      cases hasR set (stepV l back z).1 with
      | false => simp only [cond_false]
      | true =>
        obtain ⟨m, hm, hml⟩ := stepV_to hz hok
        simp only [cond_true]
        rw [pLoad_Sf g3 rfl (by decide) (by simp)]
        simp only [List.getElem?_cons_zero, Nat.add_zero, Nat.mul_one, kont_v, hm]
        rw [pIadrS_gr g2 rfl rfl (by omega), pStore_S (n := 1) (kk := 1) g2 rfl (AV.cells_b _) rfl (by decide) (by simp; omega) (by simp [L])]
        simp only [Int.toNat_natCast, Nat.zero_add, Nat.mul_one, Nat.add_zero, List.length_cons, List.length_nil]
        have : List.take m (o.map AV.b) ++ ([AV.b true] ++ List.drop (m + 1) (o.map AV.b)) = (o.set m true).map .b := by
          rw [List.map_set, List.set_eq_take_append_cons_drop, if_pos (by simp; omega)]
          rfl
        rw [this]
        rfl
  let Inv : List Nat → ES → Prop := fun a s => (∀ z ∈ a, z ≤ l.length) ∧ s = S (L .ready (a.foldl (markV l back set) (List.replicate (l.length + 1) false))) 7
  have hfl : ∀ (a : List Nat) (o : List Bool), (a.foldl (markV l back set) o).length = o.length := by
    intro a
    induction a with
    | nil => intro o; rfl
    | cons z a ih => intro o; rw [List.foldl_cons, ih, markV_len]
  have hround : ∀ a s z, Inv a s → a.length ≤ z → z < bs.length → ∃ s', Inv (a ++ [z]) s' ∧ ∀ k, eRound R1.b 6 6 [.i .i64 (z : Nat)] s k = k (.b true) s' := by
    rintro a s z ⟨ha, rfl⟩ _ hz
    refine ⟨_, ⟨fun y hy => ?_, rfl⟩, fun k => ?_⟩
    · rcases List.mem_append.1 hy with hy | hy
      · exact ha y hy
      · rw [List.mem_singleton.1 hy]; omega
    · rw [round_S (l1 := L .ready (a.foldl (markV l back set) (List.replicate (l.length + 1) false))) (nx1 := 7) (N := 34) (ρ := ρ) (ps := [16]) (xa := I.x 0) (xb := I.x 1) (dr := 5) (ds := 5) (l2 := L .busy (markV l back set (a.foldl (markV l back set) (List.replicate (l.length + 1) false)) z)) (nx2 := 7) rfl rfl (by rw [hA]; rfl) rfl (by simp [L])
        (by rw [hB]; exact hbody _ z (by rw [hfl]; simp) (by omega)) rfl (by simp [L])]
      simp only [List.foldl_append, List.foldl_cons, List.foldl_nil]
      rfl
  have hrun : B_mone I R [.agg [t, .b back], w, u0] (S [] 0) = some (.ret (.gr 2 2 0 (l.length + 1) 1) (S [some (.cells 0 false (I.t 2) 0 [t, .b back]), some (.cells 1 false (I.t 4) 0 [w]), some (.cells 2 false (I.t 3) 0 ((oneV l back set bs).map .b)), some (.cells 3 false (I.t 5) 0 [.gr 2 2 0 (l.length + 1) 1]),
      some (.cells 4 false (I.t 5) 0 [u0]), none, none] 7)) := by
    have ht : Clo t := encR32.clo_of hl
    have n1 : ∀ (σ : List (Option Blk)) (nx : Nat), σ.length ≤ 999999999 → rowOv (noneF I) R [.agg [t, .b back]] (S σ nx) = some (.ret (.gr σ.length nx 0 (l.length + 1) 1) (S (σ ++ [some (.cells nx false (I.t 3) 0 (List.replicate (l.length + 1) (.b false)))]) (nx + 1))) := fun σ nx hσ =>
      rowOv_S (mapO_clo (by simp only [CloL, Clo, and_self, and_true]; exact ht)) (by simp only [noneF, hl]; rw [if_pos (by omega)]) (by simp) hσ
    have hrep : List.replicate (l.length + 1) (AV.b false) = (List.replicate (l.length + 1) false).map .b := by simp
    obtain ⟨s', ⟨_, rfl⟩, hiter⟩ := mall1_iter (I := I) (R := R1) (cap := .p 4 4 1 0 0) (r := 6) (st := 6) hb (by omega) Inv hround (S (L .ready (List.replicate (l.length + 1) false)) 7) ⟨by simp, rfl⟩
      (fun k => by rw [pLoad_Sf (l := L .ready (List.replicate (l.length + 1) false)) (r := 4) (st' := 4) (cs := [u0]) (T := I.t 5) (fz := 0) rfl rfl (by decide) (by simp)]; rfl)
    unfold B_mone
    rw [args3, pBox_S (AV.cells_agg _) (by simp)]
    simp only [jn_d, List.length_nil, List.length_cons, List.nil_append, Nat.zero_add, Nat.reduceAdd]
    rw [pBox_S (encRange.cells_of hs) (by simp)]
    simp only [List.length_nil, List.length_cons, List.nil_append, List.cons_append, Nat.zero_add, Nat.reduceAdd]
    rw [pLoad_St (l := [some (.cells 0 false (I.t 2) 0 [t, .b back]), some (.cells 1 false (I.t 4) 0 [w])]) (r := 0) rfl rfl (by decide) (by simp)]
    simp only [List.drop_zero, List.take_succ_cons, List.take_nil, Nat.add_zero, Nat.zero_mul, hnone]
    rw [n1 _ _ (by simp)]
    simp only [callK_ret, List.length_nil, List.length_cons, List.nil_append, List.cons_append, Nat.zero_add, Nat.reduceAdd]
    rw [pRow_S (by simp)]
    simp only [List.length_nil, List.length_cons, List.nil_append, List.cons_append, Nat.zero_add, Nat.reduceAdd]
    rw [pStore_S (n := 1) (kk := 1) (l := [some (.cells 0 false (I.t 2) 0 [t, .b back]), some (.cells 1 false (I.t 4) 0 [w]), some (.cells 2 false (I.t 3) 0 (List.replicate (l.length + 1) (.b false))), some (.cells 3 false (I.t 5) 0 [.ns])]) (r := 3) rfl rfl rfl rfl (by decide) (by simp) (by simp)]
    simp only [List.length_nil, List.length_cons, List.nil_append, List.append_nil, List.drop_succ_cons, List.drop_nil, List.take_zero, List.set_cons_zero, List.set_cons_succ, Nat.zero_add, Nat.add_zero, Nat.mul_one, hall]
    unfold B_mall
    rw [args1, pBox_S (encB.cells_of hb) (by simp)]
    simp only [callK_ret, List.length_nil, List.length_cons, List.nil_append, List.cons_append, Nat.zero_add, Nat.reduceAdd]
    rw [pRange_S rfl (by simp)]
    simp only [List.length_nil, List.length_cons, List.nil_append, List.cons_append, Nat.zero_add, Nat.reduceAdd, hh]
    rw [hrep]
    show callK (B_mall1 I R1 [.fy 6 6, .p 4 4 1 0 0] (S (L .ready (List.replicate (l.length + 1) false)) 7)) _ = _
    rw [hiter]
    simp only [callK_ret]
    rw [eRangeEnd_S (l := L .ready _) rfl (by simp [L])]
    unfold B_monej1
    rw [pLoad_Sf (r := 3) (st' := 3) (cs := [.gr 2 2 0 (l.length + 1) 1]) (T := I.t 5) (fz := 0) rfl rfl (by decide) (by simp)]
    simp only [List.getElem?_cons_zero, Nat.add_zero, Nat.mul_one, kont_v]
    rw [eLeave_S (r := 5) (st := 5) rfl (by simp [L])]
    rfl
  rw [hrun]
  refine Tot.ret ⟨2, 2, 2, _, rfl, ?_, InlL.same ?_⟩
  · rw [S_st]; rfl
  · rw [FlaL_iff]
    intro x hx
    obtain ⟨b, _, rfl⟩ := List.mem_map.1 hx
    simp only [Fla]
end Hb
end
