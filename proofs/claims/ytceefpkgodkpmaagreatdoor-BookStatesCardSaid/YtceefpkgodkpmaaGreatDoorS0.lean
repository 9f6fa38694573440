import Derived.Test.YtceefpkgodkpmaaGreatDoorS
set_option autoImplicit false
set_option maxRecDepth 100000
set_option linter.unusedVariables false
namespace Tb
open Go Hb
noncomputable def b71 : Fun := fun R args s => eEnt R 4 x71 r71 [0] args s
theorem s71 : SOk prg 71 b71 := deep_ok hm ok71 (by decide)
noncomputable def b34 : Fun := fun R args s => eEnt R 26 x34 r34 [0] args s
theorem s34 : SOk prg 34 b34 := deep_ok hm ok34 (by decide)
noncomputable def b35 : Fun := fun R args s => eEnt R 4 x35 r35 [0] args s
theorem s35 : SOk prg 35 b35 := deep_ok hm ok35 (by decide)
noncomputable def b13 : Fun := fun R args s => eEnt R 59 x13 r13 [0] args s
theorem s13 : SOk prg 13 b13 := deep_ok hm ok13 (by decide)
noncomputable def b142 : Fun := fun R args s => eEnt R 6 x142 r142 [0,1] args s
theorem s142 : SOk prg 142 b142 := deep_ok hm ok142 (by decide)
noncomputable def b78 : Fun := fun R args s => eEnt R 17 x78 r78 [0] args s
theorem s78 : SOk prg 78 b78 := deep_ok hm ok78 (by decide)
noncomputable def b229q1 (R : Rec) (d13 : List (Nat × Nat)) (s14 : ES) (v18 : AV) : Res := (eLeave d13 s14 fun s19 => (some (.ret v18 s19)))
noncomputable def b229j2 (R : Rec) : Cur [0,2] := fun v11 v12 d13 s14 => (pInt .u8 v11 fun v15 => (pIdxs (.s [0,1,2,2,3,3,3,3,4,4,4,4,4,4,4,4,5,5,5,5,5,5,5,5,5,5,5,5,5,5,5,5,6,6,6,6,6,6,6,6,6,6,6,6,6,6,6,6,6,6,6,6,6,6,6,6,6,6,6,6,6,6,6,6,7,7,7,7,7,7,7,7,7,7,7,7,7,7,7,7,7,7,7,7,7,7,7,7,7,7,7,7,7,7,7,7,7,7,7,7,7,7,7,7,7,7,7,7,7,7,7,7,7,7,7,7,7,7,7,7,7,7,7,7,7,7,7,7,8,8,8,8,8,8,8,8,8,8,8,8,8,8,8,8,8,8,8,8,8,8,8,8,8,8,8,8,8,8,8,8,8,8,8,8,8,8,8,8,8,8,8,8,8,8,8,8,8,8,8,8,8,8,8,8,8,8,8,8,8,8,8,8,8,8,8,8,8,8,8,8,8,8,8,8,8,8,8,8,8,8,8,8,8,8,8,8,8,8,8,8,8,8,8,8,8,8,8,8,8,8,8,8,8,8,8,8,8,8,8,8,8,8,8,8,8,8,8,8,8,8,8,8,8,8,8,8]) v15 fun v16 => (pInt .i64 v16 fun v17 => (bAdd v12 v17 fun v18 => (b229q1 R d13 s14 v18)))))
noncomputable def b229j3 (R : Rec) : Cur [0,2] := fun v7 v8 d9 s10 => (jn [0,2] (b229j2 R) fun K20 => (bGeq v7 (.i .u64 256) fun v21 => (eCond v21 (pBin .shr v7 (.i .u64 8) fun v22 => (bAdd v8 (.i .i64 8) fun v23 => (K20 v22 v23 d9 s10))) (K20 v7 v8 d9 s10))))
noncomputable def b229j4 (R : Rec) : Cur [0,2] := fun v3 v4 d5 s6 => (jn [0,2] (b229j3 R) fun K24 => (bGeq v3 (.i .u64 65536) fun v25 => (eCond v25 (pBin .shr v3 (.i .u64 16) fun v26 => (bAdd v4 (.i .i64 16) fun v27 => (K24 v26 v27 d5 s6))) (K24 v3 v4 d5 s6))))
noncomputable def b229 (R : Rec) (args : List AV) (s2 : ES) : Res := argsK [0] args (fun v1 => (jn [0,2] (b229j4 R) fun K28 => (bGeq v1 (.i .u64 4294967296) fun v29 => (eCond v29 (pBin .shr v1 (.i .u64 32) fun v30 => (K28 v30 (.i .i64 32) [] s2)) (K28 v1 (.i .i64 0) [] s2)))))
theorem h229 : b229 = fun R args s => eEnt (R) 25 x229 r229 [0] args s := by kernel_rfl
theorem s229 : SOk prg 229 b229 := SOk.of (Rk := fun R => R) hm ok229 rfl (by decide) (fun R h => h) h229
noncomputable def b174j1 (R : Rec) (v1 : AV) : Cur [] := fun d3 s4 => (callK (b229 R [v1] s4) fun v5 s6 => (eLeave d3 s6 fun s7 => (some (.ret v5 s7))))
noncomputable def b174 (R : Rec) (args : List AV) (s2 : ES) : Res := argsK [0] args (fun v1 => (jn [] (b174j1 R v1) fun K8 => (eCond (.b false) (pInt .u32 v1 fun v9 => (callK (R.f 228 [v9] s2) fun v10 s11 => (some (.ret v10 s11)))) (K8 [] s2))))
theorem h174 : b174 = fun R args s => eEnt (withF 229 b229 R R) 8 x174 r174 [0] args s := by kernel_rfl
theorem s174 : SOk prg 174 b174 := SOk.of (Rk := fun R => withF 229 b229 R R) hm ok174 rfl (by decide) (fun R h => (withF_ok s229 h h)) h174
noncomputable def b266 : Fun := fun R args s => eEnt R 49 x266 r266 [0,1,2] args s
theorem s266 : SOk prg 266 b266 := deep_ok hm ok266 (by decide)
noncomputable def b214q1 (R : Rec) (v1 v32 v37 v19 : AV) (s36 : ES) (K6 : Cur [1,2,3,8,9]) (v8 v43 v38 : AV) (d33 : List (Nat × Nat)) : Res := (callK (R.f 214 [v1,v32,v37,v19] s36) fun v44 s45 => (bAdd v37 (.i .i64 1) fun v46 => (K6 v46 v8 v19 v43 v38 d33 s45)))
noncomputable def b214q2 (R : Rec) (v37 v1 v8 v19 : AV) (s36 : ES) (K6 : Cur [1,2,3,8,9]) (v32 v47 v38 : AV) (d33 : List (Nat × Nat)) : Res := (bAdd v37 (.i .i64 1) fun v48 => (callK (R.f 214 [v1,v48,v8,v19] s36) fun v49 s50 => (K6 v32 v37 v19 v47 v38 d33 s50)))
noncomputable def b214q3 (R : Rec) (v39 v40 v41 v1 v32 v37 v19 : AV) (s36 : ES) (K6 : Cur [1,2,3,8,9]) (v8 v38 : AV) (d33 : List (Nat × Nat)) : Res := (bLss v39 v40 fun v42 => (eCond v42 (bGeq v39 v41 fun v43 => (b214q1 R v1 v32 v37 v19 s36 K6 v8 v43 v38 d33)) (bGeq v40 v41 fun v47 => (b214q2 R v37 v1 v8 v19 s36 K6 v32 v47 v38 d33))))
noncomputable def b214q4 (R : Rec) (v14 v39 v40 v1 v32 v37 v19 : AV) (s36 : ES) (K6 : Cur [1,2,3,8,9]) (v8 v38 : AV) (d33 : List (Nat × Nat)) : Res := (bQuo v14 (.i .i64 8) fun v41 => (b214q3 R v39 v40 v41 v1 v32 v37 v19 s36 K6 v8 v38 d33))
noncomputable def b214q5 (R : Rec) (v37 v32 v8 v14 v1 v19 : AV) (s36 : ES) (K6 : Cur [1,2,3,8,9]) (v38 : AV) (d33 : List (Nat × Nat)) : Res := (bSub v37 v32 fun v39 => (bSub v8 v37 fun v40 => (b214q4 R v14 v39 v40 v1 v32 v37 v19 s36 K6 v8 v38 d33)))
noncomputable def b214q6 (R : Rec) (v35 v32 v8 v14 v1 v19 : AV) (s36 : ES) (K6 : Cur [1,2,3,8,9]) (d33 : List (Nat × Nat)) : Res := (pExt v35 0 fun v37 => (pExt v35 1 fun v38 => (b214q5 R v37 v32 v8 v14 v1 v19 s36 K6 v38 d33)))
noncomputable def b214j7 (R : Rec) (v1 v8 v26 v14 v19 : AV) (K6 : Cur [1,2,3,8,9]) : Cur [1] := fun v32 d33 s34 => (callK (R.f 273 [v1,v32,v8,v26] s34) fun v35 s36 => (b214q6 R v35 v32 v8 v14 v1 v19 s36 K6 d33))
noncomputable def b214q8 (R : Rec) (K6 : Cur [1,2,3,8,9]) (v93 v8 v19 v10 v11 : AV) (d30 : List (Nat × Nat)) (s94 : ES) : Res := (K6 v93 v8 v19 v10 v11 d30 s94)
noncomputable def b214q9 (R : Rec) (v52 v1 v7 v8 v26 : AV) (K6 : Cur [1,2,3,8,9]) (v19 v10 v11 : AV) (d30 : List (Nat × Nat)) (K51 : Cur [1]) (v67 v81 : AV) (s82 : ES) : Res := (jv (fun v85 s86 => (jv (fun v88 s89 => (pPick v52 v88 (.b false) fun v92 => (eCond v92 (callK (R.f 272 [v1,v7,v8,v26] s89) fun v93 s94 => (b214q8 R K6 v93 v8 v19 v10 v11 d30 s94)) (K51 v7 d30 s89)))) fun K90 => eGuard v52 true (pUn .not v85 fun v91 => K90 v91 s86) (K90 (.tup []) s86))) fun K87 => eGuard v52 true (callK (R.f 91 [v67,v81] s82) K87) (K87 (.tup []) s82))
noncomputable def b214q10 (R : Rec) (v52 v1 v7 v8 v26 : AV) (K6 : Cur [1,2,3,8,9]) (v19 v10 v11 : AV) (d30 : List (Nat × Nat)) (K51 : Cur [1]) (s60 : ES) (v53 v59 : AV) : Res := (jv (fun v63 s64 => (jv (fun v67 s68 => (jv (fun v71 s72 => (jv (fun v74 s75 => (jv (fun v77 s78 => (jv (fun v81 s82 => (b214q9 R v52 v1 v7 v8 v26 K6 v19 v10 v11 d30 K51 v67 v81 s82)) fun K83 => eGuard v52 true (pLoad s78 false 1 v77 fun v84 => K83 v84 s78) (K83 (.tup []) s78))) fun K79 => eGuard v52 true (pIadrS s75 1 v71 v74 fun v80 => K79 v80 s75) (K79 (.tup []) s75))) fun K76 => eGuard v52 true (K76 v26 s72) (K76 (.tup []) s72))) fun K73 => eGuard v52 true (K73 v1 s68) (K73 (.tup []) s68))) fun K69 => eGuard v52 true (pLoad s64 false 1 v63 fun v70 => K69 v70 s64) (K69 (.tup []) s64))) fun K65 => eGuard v52 true (pIadrS s60 1 v53 v59 fun v66 => K65 v66 s60) (K65 (.tup []) s60))
noncomputable def b214j11 (R : Rec) (v1 v8 v26 v14 v19 : AV) (K6 : Cur [1,2,3,8,9]) (v7 v10 v11 : AV) : Cur [] := fun d30 s31 => (jn [1] (b214j7 R v1 v8 v26 v14 v19 K6) fun K51 => (bGtr v7 (.i .i64 0) fun v52 => (jv (fun v53 s54 => (jv (fun v56 s57 => (jv (fun v59 s60 => (b214q10 R v52 v1 v7 v8 v26 K6 v19 v10 v11 d30 K51 s60 v53 v59)) fun K61 => eGuard v52 true (bSub v56 (.i .i64 1) fun v62 => K61 v62 s57) (K61 (.tup []) s57))) fun K58 => eGuard v52 true (K58 v7 s54) (K58 (.tup []) s54))) fun K55 => eGuard v52 true (K55 v1 s31) (K55 (.tup []) s31))))
noncomputable def b214q12 (R : Rec) (v99 v1 v7 v8 : AV) (d28 : List (Nat × Nat)) (K95 : Cur []) (v100 : AV) (s101 : ES) : Res := (jv (fun v103 s104 => (pPick v99 v103 (.b false) fun v107 => (eCond v107 (callK (R.f 271 [v1,v7,v8] s104) fun v108 s109 => (eCond v108 (eLeave d28 s109 fun s110 => (some (.ret (.tup []) s110))) (K95 d28 s109))) (K95 d28 s104)))) fun K105 => eGuard v99 true (bEql v100 (.i .i64 1) fun v106 => K105 v106 s101) (K105 (.tup []) s101))
noncomputable def b214j13 (R : Rec) (v1 v8 v14 v19 : AV) (K6 : Cur [1,2,3,8,9]) (v7 v10 v11 : AV) : Cur [11,12] := fun v26 v27 d28 s29 => (jn [] (b214j11 R v1 v8 v26 v14 v19 K6 v7 v10 v11) fun K95 => (jv (fun v96 s97 => (pPick v10 v96 (.b false) fun v99 => (jv (fun v100 s101 => (b214q12 R v99 v1 v7 v8 d28 K95 v100 s101)) fun K102 => eGuard v99 true (K102 v27 s97) (K102 (.tup []) s97)))) fun K98 => eGuard v10 true (K98 v11 s29) (K98 (.tup []) s29)))
noncomputable def b214q14 (R : Rec) (v24 v7 v115 : AV) (K111 : Cur [11,12]) (d20 : List (Nat × Nat)) (s114 : ES) : Res := (bSub v24 v7 fun v116 => (bSub v115 v116 fun v117 => (K111 v117 (.i .i64 1) d20 s114)))
noncomputable def b214q15 (R : Rec) (v22 v1 v8 v14 v19 : AV) (K6 : Cur [1,2,3,8,9]) (v7 v10 v11 : AV) (s23 : ES) (v24 : AV) (d20 : List (Nat × Nat)) : Res := (pExt v22 1 fun v25 => (jn [11,12] (b214j13 R v1 v8 v14 v19 K6 v7 v10 v11) fun K111 => (bEql v25 (.i .i64 2) fun v112 => (eCond v112 (callK (R.f 270 [v1,v7,v8] s23) fun v113 s114 => (bSub v8 (.i .i64 1) fun v115 => (b214q14 R v24 v7 v115 K111 d20 s114))) (K111 v24 v25 d20 s23)))))
noncomputable def b214j16 (R : Rec) (v1 v7 v8 v14 : AV) (K6 : Cur [1,2,3,8,9]) (v10 v11 : AV) : Cur [3] := fun v19 d20 s21 => (callK (R.f 269 [v1,v7,v8] s21) fun v22 s23 => (pExt v22 0 fun v24 => (b214q15 R v22 v1 v8 v14 v19 K6 v7 v10 v11 s23 v24 d20)))
noncomputable def b214q17 (R : Rec) (K118 : Cur [3]) (v122 : AV) (d17 : List (Nat × Nat)) (s121 : ES) : Res := (K118 v122 d17 s121)
noncomputable def b214j18 (R : Rec) (v1 v7 v8 v14 : AV) (K6 : Cur [1,2,3,8,9]) (v10 v11 v9 : AV) : Cur [] := fun d17 s18 => (jn [3] (b214j16 R v1 v7 v8 v14 K6 v10 v11) fun K118 => (pUn .not v10 fun v119 => (eCond v119 (callK (R.f 268 [v1,v7,v8] s18) fun v120 s121 => (bSub v9 (.i .i64 1) fun v122 => (b214q17 R K118 v122 d17 s121))) (K118 v9 d17 s18))))
noncomputable def b214j19 (R : Rec) (v1 v7 v8 v14 : AV) (K6 : Cur [1,2,3,8,9]) (v10 v11 v9 : AV) : Cur [] := fun d15 s16 => (jn [] (b214j18 R v1 v7 v8 v14 K6 v10 v11 v9) fun K123 => (bEql v9 (.i .i64 0) fun v124 => (eCond v124 (callK (R.f 267 [v1,v7,v8] s16) fun v125 s126 => (eLeave d15 s126 fun s127 => (some (.ret (.tup []) s127)))) (K123 d15 s16))))
noncomputable def b214l20 (R : Rec) (v1 : AV) : Cur [1,2,3,8,9] → Cur [1,2,3,8,9] := fun K6 v7 v8 v9 v10 v11 d12 s13 => (bSub v8 v7 fun v14 => (jn [] (b214j19 R v1 v7 v8 v14 K6 v10 v11 v9) fun K128 => (bLeq v14 (.i .i64 12) fun v129 => (eCond v129 (callK (b266 R [v1,v7,v8] s13) fun v130 s131 => (eLeave d12 s131 fun s132 => (some (.ret (.tup []) s132)))) (K128 d12 s13)))))
noncomputable def b214 (R : Rec) (args : List AV) (s5 : ES) : Res := argsK [0,1,2,3] args (fun v1 v2 v3 v4 => (lp [1,2,3,8,9] 30000 (b214l20 R v1) v2 v3 v4 (.b true) (.b true) [] s5))
theorem h214 : b214 = fun R args s => eEnt (withF 266 b266 R R) 134 x214 r214 [0,1,2,3] args s := by kernel_rfl
theorem s214 : SOk prg 214 b214 := SOk.of (Rk := fun R => withF 266 b266 R R) hm ok214 rfl (by decide) (fun R h => (withF_ok s266 h h)) h214
noncomputable def b156 : Fun := fun R args s => eEnt R 11 x156 r156 [0] args s
theorem s156 : SOk prg 156 b156 := deep_ok hm ok156 (by decide)
noncomputable def b94 : Fun := fun R args s => eEnt R 12 x94 r94 [0] args s
theorem s94 : SOk prg 94 b94 := deep_ok hm ok94 (by decide)
noncomputable def b95j1 (R : Rec) : Cur [3] := fun v8 d9 s10 => (eLeave d9 s10 fun s11 => (some (.ret v8 s11)))
noncomputable def b95j2 (R : Rec) (v18 : AV) (K16 : Cur [3,14]) : Cur [3] := fun v24 d25 s26 => (bAdd v18 (.i .i64 1) fun v27 => (K16 v24 v27 d25 s26))
noncomputable def b95q3 (R : Rec) (v35 : AV) (s34 : ES) (v17 : AV) (K28 : Cur [3]) (d22 : List (Nat × Nat)) : Res := (callK (R.f 95 [v35] s34) fun v36 s37 => (bAdd v17 v36 fun v38 => (K28 v38 d22 s37)))
noncomputable def b95j4 (R : Rec) (v18 : AV) (K16 : Cur [3,14]) (v14 v17 : AV) : Cur [] := fun d22 s23 => (jn [3] (b95j2 R v18 K16) fun K28 => (pIadrS s23 5 v14 v18 fun v29 => (pLoad s23 true 5 v29 fun v30 => (pRow s23 39 [(.i .i64 0),(.i .i64 0),(.ns),(.s []),(.ns)] fun v31 s32 => (pStore s32 5 v31 v30 fun v33 s34 => (pLoad s34 true 5 v31 fun v35 => (b95q3 R v35 s34 v17 K28 d22)))))))
noncomputable def b95l5 (R : Rec) (v15 v14 : AV) (K12 : Cur [3]) : Cur [3,14] → Cur [3,14] := fun K16 v17 v18 d19 s20 => (bLss v18 v15 fun v21 => (jn [] (b95j4 R v18 K16 v14 v17) fun K39 => (eCond v21 (K39 d19 s20) (K12 v17 d19 s20))))
noncomputable def b95j6 (R : Rec) (v3 : AV) : Cur [3] := fun v5 d6 s7 => (jn [3] (b95j1 R) fun K12 => (pFadr s7 4 v3 fun v13 => (pLoad s7 false 1 v13 fun v14 => (pLen false v14 fun v15 => (lp [3,14] 30000 (b95l5 R v15 v14 K12) v5 (.i .i64 0) d6 s7)))))
noncomputable def b95 (R : Rec) (args : List AV) (s2 : ES) : Res := argsK [0] args (fun v1 => (pBox s2 39 v1 fun v3 s4 => (jn [3] (b95j6 R v3) fun K40 => (pFadr s4 0 v3 fun v41 => (pLoad s4 false 1 v41 fun v42 => (bEql v42 (.i .i64 1) fun v43 => (eCond v43 (bAdd (.i .i64 0) (.i .i64 1) fun v44 => (K40 v44 [] s4)) (K40 (.i .i64 0) [] s4))))))))
theorem h95 : b95 = fun R args s => eEnt (R) 24 x95 r95 [0] args s := by kernel_rfl
theorem s95 : SOk prg 95 b95 := SOk.of (Rk := fun R => R) hm ok95 rfl (by decide) (fun R h => h) h95
noncomputable def b79 : Fun := fun R args s => eEnt R 16 x79 r79 [0] args s
theorem s79 : SOk prg 79 b79 := deep_ok hm ok79 (by decide)
noncomputable def b213 : Fun := fun R args s => eEnt R 13 x213 r213 [0,1] args s
theorem s213 : SOk prg 213 b213 := deep_ok hm ok213 (by decide)
noncomputable def b155 : Fun := fun R args s => eEnt R 5 x155 r155 [0] args s
theorem s155 : SOk prg 155 b155 := deep_ok hm ok155 (by decide)
noncomputable def b88 : Fun := fun R args s => eEnt R 9 x88 r88 [0] args s
theorem s88 : SOk prg 88 b88 := deep_ok hm ok88 (by decide)
noncomputable def b144 : Fun := fun R args s => eEnt R 4 x144 r144 [0] args s
theorem s144 : SOk prg 144 b144 := deep_ok hm ok144 (by decide)
noncomputable def b145 : Fun := fun R args s => eEnt R 61 x145 r145 [0] args s
theorem s145 : SOk prg 145 b145 := deep_ok hm ok145 (by decide)
noncomputable def b80 : Fun := fun R args s => eEnt R 21 x80 r80 [0,1] args s
theorem s80 : SOk prg 80 b80 := deep_ok hm ok80 (by decide)
noncomputable def b211 : Fun := fun R args s => eEnt R 13 x211 r211 [0,1] args s
theorem s211 : SOk prg 211 b211 := deep_ok hm ok211 (by decide)
noncomputable def b152 : Fun := fun R args s => eEnt R 5 x152 r152 [0] args s
theorem s152 : SOk prg 152 b152 := deep_ok hm ok152 (by decide)
noncomputable def b90 : Fun := fun R args s => eEnt R 6 x90 r90 [0] args s
theorem s90 : SOk prg 90 b90 := deep_ok hm ok90 (by decide)
noncomputable def b263 : Fun := fun R args s => eEnt R 17 x263 r263 [0,1] args s
theorem s263 : SOk prg 263 b263 := deep_ok hm ok263 (by decide)
noncomputable def b257 : Fun := fun R args s => eEnt R 49 x257 r257 [0,1,2] args s
theorem s257 : SOk prg 257 b257 := deep_ok hm ok257 (by decide)
noncomputable def b212 : Fun := fun R args s => eEnt R 134 x212 r212 [0,1,2,3] args s
theorem s212 : SOk prg 212 b212 := deep_ok hm ok212 (by decide)
noncomputable def b153 : Fun := fun R args s => eEnt R 11 x153 r153 [0] args s
theorem s153 : SOk prg 153 b153 := deep_ok hm ok153 (by decide)
noncomputable def b85 : Fun := fun R args s => eEnt R 9 x85 r85 [0] args s
theorem s85 : SOk prg 85 b85 := deep_ok hm ok85 (by decide)
noncomputable def o85 : Fun := sortedW b85
theorem so85 : SOk prg 85 o85 := sortedW_ok s85
noncomputable def b206 : Fun := fun R args s => eEnt R 4 x206 r206 [0] args s
theorem s206 : SOk prg 206 b206 := deep_ok hm ok206 (by decide)
noncomputable def b207 : Fun := fun R args s => eEnt R 61 x207 r207 [0] args s
theorem s207 : SOk prg 207 b207 := deep_ok hm ok207 (by decide)
noncomputable def b146 : Fun := fun R args s => eEnt R 21 x146 r146 [0,1] args s
theorem s146 : SOk prg 146 b146 := deep_ok hm ok146 (by decide)
noncomputable def b208 : Fun := fun R args s => eEnt R 19 x208 r208 [0,1] args s
theorem s208 : SOk prg 208 b208 := deep_ok hm ok208 (by decide)
noncomputable def b147 : Fun := fun R args s => eEnt R 9 x147 r147 [0,1] args s
theorem s147 : SOk prg 147 b147 := deep_ok hm ok147 (by decide)
noncomputable def b81 : Fun := fun R args s => eEnt R 10 x81 r81 [0] args s
theorem s81 : SOk prg 81 b81 := deep_ok hm ok81 (by decide)
noncomputable def b82 : Fun := fun R args s => eEnt R 32 x82 r82 [0] args s
theorem s82 : SOk prg 82 b82 := deep_ok hm ok82 (by decide)
noncomputable def b37q1 (R : Rec) (v45 : AV) (d11 : List (Nat × Nat)) (s47 : ES) (v46 : AV) : Res := (jv (fun v50 s51 => (jv (fun v54 s55 => (pPick v45 v54 (.b false) fun v57 => (eLeave d11 s55 fun s58 => (some (.ret v57 s58))))) fun K56 => eGuard v45 true (callK (b82 R [v50] s51) K56) (K56 (.tup []) s51))) fun K52 => eGuard v45 true (pLoad s47 false 1 v46 fun v53 => K52 v53 s47) (K52 (.tup []) s47))
noncomputable def b37q2 (R : Rec) (v33 : AV) (d11 : List (Nat × Nat)) (v3 : AV) (s31 : ES) : Res := (jv (fun v34 s35 => (jv (fun v38 s39 => (jv (fun v42 s43 => (pPick v33 v42 (.b false) fun v45 => (jv (fun v46 s47 => (b37q1 R v45 d11 s47 v46)) fun K48 => eGuard v45 true (pFadr s43 5 v3 fun v49 => K48 v49 s43) (K48 (.tup []) s43)))) fun K44 => eGuard v33 true (callK (b82 R [v38] s39) K44) (K44 (.tup []) s39))) fun K40 => eGuard v33 true (pLoad s35 false 1 v34 fun v41 => K40 v41 s35) (K40 (.tup []) s35))) fun K36 => eGuard v33 true (pFadr s31 4 v3 fun v37 => K36 v37 s31) (K36 (.tup []) s31))
noncomputable def b37q3 (R : Rec) (v21 : AV) (d11 : List (Nat × Nat)) (v3 : AV) (s19 : ES) : Res := (jv (fun v22 s23 => (jv (fun v26 s27 => (jv (fun v30 s31 => (pPick v21 v30 (.b false) fun v33 => (b37q2 R v33 d11 v3 s31))) fun K32 => eGuard v21 true (callK (b81 R [v26] s27) K32) (K32 (.tup []) s27))) fun K28 => eGuard v21 true (pLoad s23 false 1 v22 fun v29 => K28 v29 s23) (K28 (.tup []) s23))) fun K24 => eGuard v21 true (pFadr s19 3 v3 fun v25 => K24 v25 s19) (K24 (.tup []) s19))
noncomputable def b37j4 (R : Rec) (v7 v3 : AV) : Cur [6] := fun v10 d11 s12 => (callK (b80 R [v7,(.i .i64 20)] s12) fun v13 s14 => (jv (fun v15 s16 => (jv (fun v18 s19 => (pPick v13 v18 (.b false) fun v21 => (b37q3 R v21 d11 v3 s19))) fun K20 => eGuard v13 true (callK (b81 R [v15] s16) K20) (K20 (.tup []) s16))) fun K17 => eGuard v13 true (K17 v10 s14) (K17 (.tup []) s14)))
noncomputable def b37j5 (R : Rec) (v65 : AV) (K63 : Cur [6,45]) : Cur [6] := fun v71 d72 s73 => (bAdd v65 (.i .i64 1) fun v74 => (K63 v71 v74 d72 s73))
noncomputable def b37j6 (R : Rec) (v78 v64 : AV) (K75 : Cur [6]) : Cur [] := fun d82 s83 => (pFadr s83 0 v78 fun v84 => (pLoad s83 false 1 v84 fun v85 => (pLit s83 3 1 1 [(.i .i64 0)] [(0,1,v85)] fun v86 s87 => (pAppend s87 3 1 v64 v86 fun v88 s89 => (K75 v88 d82 s89)))))
noncomputable def b37q7 (R : Rec) (v95 : AV) (d69 : List (Nat × Nat)) (K90 : Cur []) (v104 : AV) (s105 : ES) : Res := (jv (fun v107 s108 => (pPick v95 (.b true) v107 fun v111 => (eCond v111 (eLeave d69 s108 fun s112 => (some (.ret (.b false) s112))) (K90 d69 s108)))) fun K109 => eGuard v95 false (pUn .not v104 fun v110 => K109 v110 s105) (K109 (.tup []) s105))
noncomputable def b37q8 (R : Rec) (v92 : AV) (s81 : ES) (d69 : List (Nat × Nat)) (K90 : Cur []) (v78 : AV) : Res := (callK (b79 R [v92] s81) fun v93 s94 => (pUn .not v93 fun v95 => (jv (fun v96 s97 => (jv (fun v100 s101 => (jv (fun v104 s105 => (b37q7 R v95 d69 K90 v104 s105)) fun K106 => eGuard v95 false (callK (b79 R [v100] s101) K106) (K106 (.tup []) s101))) fun K102 => eGuard v95 false (pLoad s97 true 5 v96 fun v103 => K102 v103 s97) (K102 (.tup []) s97))) fun K98 => eGuard v95 false (pFadr s94 7 v78 fun v99 => K98 v99 s94) (K98 (.tup []) s94))))
noncomputable def b37j9 (R : Rec) (v65 : AV) (K63 : Cur [6,45]) (v61 v64 : AV) : Cur [] := fun d69 s70 => (jn [6] (b37j5 R v65 K63) fun K75 => (pIadrS s70 12 v61 v65 fun v76 => (pLoad s70 true 12 v76 fun v77 => (pRow s70 41 [(.i .i64 0),(.b false),(.i .i64 0),(.i .i64 0),(.ns),(.s []),(.ns),(.i .i64 0),(.i .i64 0),(.ns),(.s []),(.ns)] fun v78 s79 => (pStore s79 12 v78 v77 fun v80 s81 => (jn [] (b37j6 R v78 v64 K75) fun K90 => (pFadr s81 2 v78 fun v91 => (pLoad s81 true 5 v91 fun v92 => (b37q8 R v92 s81 d69 K90 v78)))))))))
noncomputable def b37l10 (R : Rec) (v62 v61 : AV) (K59 : Cur [6]) : Cur [6,45] → Cur [6,45] := fun K63 v64 v65 d66 s67 => (bLss v65 v62 fun v68 => (jn [] (b37j9 R v65 K63 v61 v64) fun K113 => (eCond v68 (K113 d66 s67) (K59 v64 d66 s67))))
noncomputable def b37j11 (R : Rec) (v3 : AV) : Cur [3] := fun v7 d8 s9 => (jn [6] (b37j4 R v7 v3) fun K59 => (pFadr s9 2 v3 fun v60 => (pLoad s9 false 1 v60 fun v61 => (pLen false v61 fun v62 => (lp [6,45] 30000 (b37l10 R v62 v61 K59) (.ns) (.i .i64 0) d8 s9)))))
noncomputable def b37j12 (R : Rec) (v120 : AV) (K118 : Cur [3,21]) : Cur [3] := fun v126 d127 s128 => (bAdd v120 (.i .i64 1) fun v129 => (K118 v126 v129 d127 s128))
noncomputable def b37j13 (R : Rec) (v133 v119 : AV) (K130 : Cur [3]) : Cur [] := fun d137 s138 => (pFadr s138 0 v133 fun v139 => (pLoad s138 false 1 v139 fun v140 => (pLit s138 9 1 1 [(.s [])] [(0,1,v140)] fun v141 s142 => (pAppend s142 9 1 v119 v141 fun v143 s144 => (K130 v143 d137 s144)))))
noncomputable def b37q14 (R : Rec) (v151 : AV) (d124 : List (Nat × Nat)) (K145 : Cur []) (v156 : AV) (s157 : ES) : Res := (jv (fun v160 s161 => (jv (fun v163 s164 => (pPick v151 (.b true) v163 fun v167 => (eCond v167 (eLeave d124 s164 fun s168 => (some (.ret (.b false) s168))) (K145 d124 s164)))) fun K165 => eGuard v151 false (pUn .not v160 fun v166 => K165 v166 s161) (K165 (.tup []) s161))) fun K162 => eGuard v151 false (callK (b79 R [v156] s157) K162) (K162 (.tup []) s157))
noncomputable def b37q15 (R : Rec) (v147 : AV) (s136 : ES) (d124 : List (Nat × Nat)) (K145 : Cur []) (v133 : AV) : Res := (pBuild [(.i .i64 0),(.i .i64 0),(.ns),(.s []),(.ns)] [(0,1,(.i .i64 2)),(3,1,v147)] fun v148 => (callK (b78 R [v148] s136) fun v149 s150 => (pUn .not v149 fun v151 => (jv (fun v152 s153 => (jv (fun v156 s157 => (b37q14 R v151 d124 K145 v156 s157)) fun K158 => eGuard v151 false (pLoad s153 true 5 v152 fun v159 => K158 v159 s153) (K158 (.tup []) s153))) fun K154 => eGuard v151 false (pFadr s150 1 v133 fun v155 => K154 v155 s150) (K154 (.tup []) s150)))))
noncomputable def b37j16 (R : Rec) (v120 : AV) (K118 : Cur [3,21]) (v116 v119 : AV) : Cur [] := fun d124 s125 => (jn [3] (b37j12 R v120 K118) fun K130 => (pIadrS s125 6 v116 v120 fun v131 => (pLoad s125 true 6 v131 fun v132 => (pRow s125 180 [(.s []),(.i .i64 0),(.i .i64 0),(.ns),(.s []),(.ns)] fun v133 s134 => (pStore s134 6 v133 v132 fun v135 s136 => (jn [] (b37j13 R v133 v119 K130) fun K145 => (pFadr s136 0 v133 fun v146 => (pLoad s136 false 1 v146 fun v147 => (b37q15 R v147 s136 d124 K145 v133)))))))))
noncomputable def b37l17 (R : Rec) (v117 v116 : AV) (K114 : Cur [3]) : Cur [3,21] → Cur [3,21] := fun K118 v119 v120 d121 s122 => (bLss v120 v117 fun v123 => (jn [] (b37j16 R v120 K118 v116 v119) fun K169 => (eCond v123 (K169 d121 s122) (K114 v119 d121 s122))))
noncomputable def b37j18 (R : Rec) (v3 : AV) : Cur [] := fun d5 s6 => (jn [3] (b37j11 R v3) fun K114 => (pFadr s6 1 v3 fun v115 => (pLoad s6 false 1 v115 fun v116 => (pLen false v116 fun v117 => (lp [3,21] 30000 (b37l17 R v117 v116 K114) (.ns) (.i .i64 0) d5 s6)))))
noncomputable def b37q19 (R : Rec) (v173 : AV) (K170 : Cur []) (s4 : ES) (v3 : AV) : Res := (jv (fun v174 s175 => (jv (fun v178 s179 => (jv (fun v182 s183 => (jv (fun v185 s186 => (pPick v173 v185 (.b false) fun v189 => (eCond v189 (some (.ret (.b false) s186)) (K170 [] s186)))) fun K187 => eGuard v173 true (bEql v182 (.s []) fun v188 => K187 v188 s183) (K187 (.tup []) s183))) fun K184 => eGuard v173 true (callK (R.f 77 [v178] s179) K184) (K184 (.tup []) s179))) fun K180 => eGuard v173 true (pLoad s175 false 1 v174 fun v181 => K180 v181 s175) (K180 (.tup []) s175))) fun K176 => eGuard v173 true (pFadr s4 0 v3 fun v177 => K176 v177 s4) (K176 (.tup []) s4))
noncomputable def b37 (R : Rec) (args : List AV) (s2 : ES) : Res := argsK [0] args (fun v1 => (pBox s2 50 v1 fun v3 s4 => (jn [] (b37j18 R v3) fun K170 => (pFadr s4 0 v3 fun v171 => (pLoad s4 false 1 v171 fun v172 => (bNeq v172 (.s []) fun v173 => (b37q19 R v173 K170 s4 v3)))))))
theorem h37 : b37 = fun R args s => eEnt (withF 80 b80 R (withF 81 b81 R (withF 82 b82 R (withF 79 b79 R (withF 78 b78 R R))))) 86 x37 r37 [0] args s := by kernel_rfl
theorem s37 : SOk prg 37 b37 := SOk.of (Rk := fun R => withF 80 b80 R (withF 81 b81 R (withF 82 b82 R (withF 79 b79 R (withF 78 b78 R R))))) hm ok37 rfl (by decide) (fun R h => (withF_ok s80 h (withF_ok s81 h (withF_ok s82 h (withF_ok s79 h (withF_ok s78 h h)))))) h37
noncomputable def b55j1 (R : Rec) (v1 : AV) : Cur [] := fun d3 s4 => (pLit s4 148 2 0 [] [] fun v5 s6 => (pAppend s6 148 2 v5 v1 fun v7 s8 => (eLeave d3 s8 fun s9 => (some (.ret v7 s9)))))
noncomputable def b55 (R : Rec) (args : List AV) (s2 : ES) : Res := argsK [0] args (fun v1 => (jn [] (b55j1 R v1) fun K10 => (pEq s2 .slc false v1 (.ns) fun v11 => (eCond v11 (some (.ret (.ns) s2)) (K10 [] s2)))))
theorem h55 : b55 = fun R args s => eEnt (R) 8 x55 r55 [0] args s := by kernel_rfl
theorem s55 : SOk prg 55 b55 := SOk.of (Rk := fun R => R) hm ok55 rfl (by decide) (fun R h => h) h55
noncomputable def b56j1 (R : Rec) (v1 : AV) : Cur [] := fun d3 s4 => (pLit s4 39 5 0 [] [] fun v5 s6 => (pAppend s6 39 5 v5 v1 fun v7 s8 => (eLeave d3 s8 fun s9 => (some (.ret v7 s9)))))
noncomputable def b56 (R : Rec) (args : List AV) (s2 : ES) : Res := argsK [0] args (fun v1 => (jn [] (b56j1 R v1) fun K10 => (pEq s2 .slc false v1 (.ns) fun v11 => (eCond v11 (some (.ret (.ns) s2)) (K10 [] s2)))))
theorem h56 : b56 = fun R args s => eEnt (R) 8 x56 r56 [0] args s := by kernel_rfl
theorem s56 : SOk prg 56 b56 := SOk.of (Rk := fun R => R) hm ok56 rfl (by decide) (fun R h => h) h56
noncomputable def b38j1 (R : Rec) (v3 v5 : AV) : Cur [] := fun d24 s25 => (pLoad s25 true 5 v3 fun v26 => (pStore s25 5 v5 v26 fun v27 s28 => (eLeave d24 s28 fun s29 => (pLoad s29 true 5 v5 fun v30 => (some (.ret v30 s29))))))
noncomputable def b38j2 (R : Rec) (v36 : AV) (K35 : Cur [17]) : Cur [] := fun d42 s43 => (bAdd v36 (.i .i64 1) fun v44 => (K35 v44 d42 s43))
noncomputable def b38q3 (R : Rec) (s56 : ES) (v57 v55 : AV) (K45 : Cur []) (d40 : List (Nat × Nat)) : Res := (pStore s56 5 v57 v55 fun v58 s59 => (K45 d40 s59))
noncomputable def b38q4 (R : Rec) (s51 : ES) (v3 v48 v36 : AV) (K45 : Cur []) (d40 : List (Nat × Nat)) : Res := (pFadr s51 4 v3 fun v52 => (pLoad s51 false 1 v52 fun v53 => (pLoad s51 true 5 v48 fun v54 => (callK (R.f 38 [v54] s51) fun v55 s56 => (pLoad s56 false 1 v52 fun v61 => (cond (avEq v61 v53) (pFadr s56 4 v3 fun v60 => (cond (avEq v60 v52) (pIadrS s56 5 v53 v36 fun v57 => (b38q3 R s56 v57 v55 K45 d40)) none)) none))))))
noncomputable def b38j5 (R : Rec) (v36 : AV) (K35 : Cur [17]) (v33 v3 : AV) : Cur [] := fun d40 s41 => (jn [] (b38j2 R v36 K35) fun K45 => (pIadrS s41 5 v33 v36 fun v46 => (pLoad s41 true 5 v46 fun v47 => (pRow s41 39 [(.i .i64 0),(.i .i64 0),(.ns),(.s []),(.ns)] fun v48 s49 => (pStore s49 5 v48 v47 fun v50 s51 => (b38q4 R s51 v3 v48 v36 K45 d40))))))
noncomputable def b38l6 (R : Rec) (v34 v33 v3 : AV) (K31 : Cur []) : Cur [17] → Cur [17] := fun K35 v36 d37 s38 => (bLss v36 v34 fun v39 => (jn [] (b38j5 R v36 K35 v33 v3) fun K62 => (eCond v39 (K62 d37 s38) (K31 d37 s38))))
noncomputable def b38q7 (R : Rec) (s20 : ES) (v3 v19 v5 : AV) : Res := (pFadr s20 4 v3 fun v21 => (pStore s20 1 v21 v19 fun v22 s23 => (jn [] (b38j1 R v3 v5) fun K31 => (pFadr s23 4 v3 fun v32 => (pLoad s23 false 1 v32 fun v33 => (pLen false v33 fun v34 => (lp [17] 30000 (b38l6 R v34 v33 v3 K31) (.i .i64 0) [] s23)))))))
noncomputable def b38q8 (R : Rec) (v11 : AV) (s9 : ES) (v3 v5 : AV) : Res := (callK (b55 R [v11] s9) fun v12 s13 => (pFadr s13 2 v3 fun v14 => (pStore s13 1 v14 v12 fun v15 s16 => (pFadr s16 4 v3 fun v17 => (pLoad s16 false 1 v17 fun v18 => (callK (b56 R [v18] s16) fun v19 s20 => (b38q7 R s20 v3 v19 v5)))))))
noncomputable def b38 (R : Rec) (args : List AV) (s2 : ES) : Res := argsK [0] args (fun v1 => (pBox s2 39 v1 fun v3 s4 => (pRow s4 39 [(.i .i64 0),(.i .i64 0),(.ns),(.s []),(.ns)] fun v5 s6 => (pFadr s6 1 v3 fun v7 => (pStore s6 1 v7 (.i .i64 0) fun v8 s9 => (pFadr s9 2 v3 fun v10 => (pLoad s9 false 1 v10 fun v11 => (b38q8 R v11 s9 v3 v5))))))))
theorem h38 : b38 = fun R args s => eEnt (withF 55 b55 R (withF 56 b56 R R)) 30 x38 r38 [0] args s := by kernel_rfl
theorem s38 : SOk prg 38 b38 := SOk.of (Rk := fun R => withF 55 b55 R (withF 56 b56 R R)) hm ok38 rfl (by decide) (fun R h => (withF_ok s55 h (withF_ok s56 h h))) h38
noncomputable def b83 : Fun := fun R args s => eEnt R 13 x83 r83 [0,1] args s
theorem s83 : SOk prg 83 b83 := deep_ok hm ok83 (by decide)
end Tb
