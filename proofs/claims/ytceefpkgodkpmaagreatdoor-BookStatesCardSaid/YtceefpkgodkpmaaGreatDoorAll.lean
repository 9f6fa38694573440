import Derived.Test.YtceefpkgodkpmaaGreatDoorS5
section
set_option autoImplicit false
set_option maxRecDepth 100000
set_option linter.unusedVariables false
namespace Tb
open Go Hb
noncomputable def c0 := fun R f s => eBod R 128 t0 [2,3,4,5,6,29] [2,3,4,5,6,8] f s
theorem sc0 : COk prg 0 128 c0 := COk.of (Rk := fun R => R) hm (by kernel_rfl) (fun R h => h) rfl
noncomputable def c1 := fun R f s => eBod R 128 t1 [2,3,4,5,6,8] [] f s
theorem sc1 : COk prg 1 128 c1 := COk.of (Rk := fun R => R) hm (by kernel_rfl) (fun R h => h) rfl
noncomputable def c2 := fun R f s => eBod R 59 t2 [2,3,4,5,8,31,32] [2,3,4,5,8,9,10] f s
theorem sc2 : COk prg 2 59 c2 := COk.of (Rk := fun R => R) hm (by kernel_rfl) (fun R h => h) rfl
noncomputable def c3 := fun R f s => eBod R 59 t3 [2,3,4,5,8,9,10] [] f s
theorem sc3 : COk prg 3 59 c3 := COk.of (Rk := fun R => R) hm (by kernel_rfl) (fun R h => h) rfl
noncomputable def c4 := fun R f s => eBod R 115 t4 [16,106] [16,17] f s
theorem sc4 : COk prg 4 115 c4 := COk.of (Rk := fun R => R) hm (by kernel_rfl) (fun R h => h) rfl
noncomputable def c5 := fun R f s => eBod R 115 t5 [16,17] [] f s
theorem sc5 : COk prg 5 115 c5 := COk.of (Rk := fun R => R) hm (by kernel_rfl) (fun R h => h) rfl
noncomputable def c6 := fun R f s => eBod R 26 t6 [2,3,4,5,10,11] [2,3,4,5,6,7] f s
theorem sc6 : COk prg 6 26 c6 := COk.of (Rk := fun R => R) hm (by kernel_rfl) (fun R h => h) rfl
noncomputable def c7 := fun R f s => eBod R 26 t7 [2,3,4,5,6,7] [] f s
theorem sc7 : COk prg 7 26 c7 := COk.of (Rk := fun R => R) hm (by kernel_rfl) (fun R h => h) rfl
noncomputable def c8 := fun R f s => eBod R 17 t8 [2,3,7] [2,3,4] f s
theorem sc8 : COk prg 8 17 c8 := COk.of (Rk := fun R => R) hm (by kernel_rfl) (fun R h => h) rfl
noncomputable def c9 := fun R f s => eBod R 17 t9 [2,3,4] [] f s
theorem sc9 : COk prg 9 17 c9 := COk.of (Rk := fun R => R) hm (by kernel_rfl) (fun R h => h) rfl
noncomputable def c10 := fun R f s => eBod R 13 t10 [2,7] [2,5] f s
theorem sc10 : COk prg 10 13 c10 := COk.of (Rk := fun R => R) hm (by kernel_rfl) (fun R h => h) rfl
noncomputable def c11 := fun R f s => eBod R 13 t11 [2,5] [] f s
theorem sc11 : COk prg 11 13 c11 := COk.of (Rk := fun R => R) hm (by kernel_rfl) (fun R h => h) rfl
noncomputable def c12 (R : Rec) (f : Nat → AV) (s4 : ES) : Res := tmpsK [3,7,22] f (fun v1 v2 v3 => (some (.ex .normal (envL [(3,v1),(7,v2),(8,v3)]) s4)))
theorem hc12 : c12 = fun R f s => eBod (R) 45 t12 [3,7,22] [3,7,8] f s := by kernel_rfl
theorem sc12 : COk prg 12 45 c12 := COk.of (Rk := fun R => R) hm (by kernel_rfl) (fun R h => h) hc12
noncomputable def c13 (R : Rec) (f : Nat → AV) (s4 : ES) : Res := tmpsK [3,7,8] f (fun v1 v2 v3 => (pLoad s4 false 1 v2 fun v5 => (pLoad s4 false 1 v1 fun v6 => (callK (b165 R [v6,v3] s4) fun v7 s8 => (pLoad s8 false 1 v2 fun v12 => (cond (avEq v12 v5) (pBin .or v5 v7 fun v9 => (pStore s8 1 v2 v9 fun v10 s11 => (some (.ex .normal (envL []) s11)))) none))))))
theorem hc13 : c13 = fun R f s => eBod (withF 165 b165 R R) 45 t13 [3,7,8] [] f s := by kernel_rfl
theorem sc13 : COk prg 13 45 c13 := COk.of (Rk := fun R => withF 165 b165 R R) hm (by kernel_rfl) (fun R h => (withF_ok s165 h h)) hc13
noncomputable def c14 (R : Rec) (f : Nat → AV) (s5 : ES) : Res := tmpsK [3,5,9,30] f (fun v1 v2 v3 v4 => (some (.ex .normal (envL [(3,v1),(5,v2),(9,v3),(10,v4)]) s5)))
theorem hc14 : c14 = fun R f s => eBod (R) 45 t14 [3,5,9,30] [3,5,9,10] f s := by kernel_rfl
theorem sc14 : COk prg 14 45 c14 := COk.of (Rk := fun R => R) hm (by kernel_rfl) (fun R h => h) hc14
noncomputable def c15q1 (R : Rec) (s14 : ES) (v3 v4 : AV) : Res := (pLoad s14 false 1 v3 fun v15 => (pBin .shl (.i .u64 1) v4 fun v16 => (pBin .or v15 v16 fun v17 => (pStore s14 1 v3 v17 fun v18 s19 => (some (.ex .normal (envL []) s19))))))
noncomputable def c15q2 (R : Rec) (s5 : ES) (v10 v2 v3 v4 : AV) : Res := (pLoad s5 false 1 v10 fun v11 => (pLoad s5 false 1 v2 fun v12 => (callK (b116 R [v11,v12] s5) fun v13 s14 => (eCond v13 (c15q1 R s14 v3 v4) (some (.ex .normal (envL []) s14))))))
noncomputable def c15 (R : Rec) (f : Nat → AV) (s5 : ES) : Res := tmpsK [3,5,9,10] f (fun v1 v2 v3 v4 => (pLoad s5 false 1 v1 fun v6 => (pNil s5 v6 fun v7 => (pFadr s5 3 v7 fun v8 => (pLoad s5 false 1 v8 fun v9 => (pIadrS s5 1 v9 v4 fun v10 => (c15q2 R s5 v10 v2 v3 v4)))))))
theorem hc15 : c15 = fun R f s => eBod (withF 116 b116 R R) 45 t15 [3,5,9,10] [] f s := by kernel_rfl
theorem sc15 : COk prg 15 45 c15 := COk.of (Rk := fun R => withF 116 b116 R R) hm (by kernel_rfl) (fun R h => (withF_ok s116 h h)) hc15
noncomputable def c16 := fun R f s => eBod R 20 t16 [3,5,9] [3,5,6] f s
theorem sc16 : COk prg 16 20 c16 := COk.of (Rk := fun R => R) hm (by kernel_rfl) (fun R h => h) rfl
noncomputable def c17 := fun R f s => eBod R 20 t17 [3,5,6] [] f s
theorem sc17 : COk prg 17 20 c17 := COk.of (Rk := fun R => R) hm (by kernel_rfl) (fun R h => h) rfl
noncomputable def c18 := fun R f s => eBod R 13 t18 [2,7] [2,5] f s
theorem sc18 : COk prg 18 13 c18 := COk.of (Rk := fun R => R) hm (by kernel_rfl) (fun R h => h) rfl
noncomputable def c19 := fun R f s => eBod R 13 t19 [2,5] [] f s
theorem sc19 : COk prg 19 13 c19 := COk.of (Rk := fun R => R) hm (by kernel_rfl) (fun R h => h) rfl
noncomputable def c20 (R : Rec) (f : Nat → AV) (s3 : ES) : Res := tmpsK [3,8] f (fun v1 v2 => (pRow s3 322 [(.i .i32 0),(.i .i32 0)] fun v4 s5 => (pStore s5 2 v4 v2 fun v6 s7 => (some (.ex .normal (envL [(3,v1),(4,v4)]) s7)))))
theorem hc20 : c20 = fun R f s => eBod (R) 19 t20 [3,8] [3,4] f s := by kernel_rfl
theorem sc20 : COk prg 20 19 c20 := COk.of (Rk := fun R => R) hm (by kernel_rfl) (fun R h => h) hc20
noncomputable def c21q1 (R : Rec) (v6 v9 : AV) (s3 : ES) (v4 v1 : AV) : Res := (pBuild [(.i .i32 0),(.i .i32 0)] [(0,1,v6),(1,1,v9)] fun v10 => (pLit s3 148 2 1 [(.i .i32 0),(.i .i32 0)] [(0,2,v10)] fun v11 s12 => (pAppend s12 148 2 v4 v11 fun v13 s14 => (pStore s14 1 v1 v13 fun v15 s16 => (some (.ex .normal (envL []) s16))))))
noncomputable def c21 (R : Rec) (f : Nat → AV) (s3 : ES) : Res := tmpsK [3,4] f (fun v1 v2 => (pLoad s3 false 1 v1 fun v4 => (pFadr s3 0 v2 fun v5 => (pLoad s3 false 1 v5 fun v6 => (pFadr s3 1 v2 fun v7 => (pLoad s3 false 1 v7 fun v8 => (bSub v8 (.i .i32 1) fun v9 => (c21q1 R v6 v9 s3 v4 v1))))))))
theorem hc21 : c21 = fun R f s => eBod (R) 19 t21 [3,4] [] f s := by kernel_rfl
theorem sc21 : COk prg 21 19 c21 := COk.of (Rk := fun R => R) hm (by kernel_rfl) (fun R h => h) hc21
noncomputable def c22 := fun R f s => eBod R 13 t22 [2,7] [2,5] f s
theorem sc22 : COk prg 22 13 c22 := COk.of (Rk := fun R => R) hm (by kernel_rfl) (fun R h => h) rfl
noncomputable def c23 := fun R f s => eBod R 13 t23 [2,5] [] f s
theorem sc23 : COk prg 23 13 c23 := COk.of (Rk := fun R => R) hm (by kernel_rfl) (fun R h => h) rfl
noncomputable def c24 := fun R f s => eBod R 13 t24 [2,7] [2,5] f s
theorem sc24 : COk prg 24 13 c24 := COk.of (Rk := fun R => R) hm (by kernel_rfl) (fun R h => h) rfl
noncomputable def c25 := fun R f s => eBod R 13 t25 [2,5] [] f s
theorem sc25 : COk prg 25 13 c25 := COk.of (Rk := fun R => R) hm (by kernel_rfl) (fun R h => h) rfl
end Tb
end
section
set_option autoImplicit false
set_option maxRecDepth 100000
set_option linter.unusedVariables false
namespace Tb
open Go Hb
noncomputable def tab : Tab := (.n 128 (.fn b128) (.n 63 (.fn b63) (.n 33 (.fn b33) (.n 17 (.fn b17) (.n 10 (.fn b10) (.n 7 (.fn b7) (.n 5 (.fn b5) (.n 4 (.fn b4) .e .e) (.n 6 (.fn b6) .e .e)) (.n 9 (.fn b9) (.n 8 (.fn b8) .e .e) .e)) (.n 14 (.fn b14) (.n 12 (.fn b12) (.n 11 (.fn b11) .e .e) (.n 13 (.fn b13) .e .e)) (.n 16 (.fn b16) (.n 15 (.fn b15) .e .e) .e))) (.n 26 (.fn b26) (.n 21 (.fn b21) (.n 19 (.fn b19) (.n 18 (.fn b18) .e .e) (.n 20 (.fn b20) .e .e)) (.n 25 (.fn b25) (.n 22 (.fn b22) .e .e) .e)) (.n 30 (.fn b30) (.n 28 (.fn b28) (.n 27 (.fn b27) .e .e) (.n 29 (.fn b29) .e .e)) (.n 32 (.fn b32) (.n 31 (.fn b31) .e .e) .e)))) (.n 47 (.fn b47) (.n 40 (.fn b40) (.n 37 (.fn b37) (.n 35 (.fn b35) (.n 34 (.fn b34) .e .e) (.n 36 (.fn b36) .e .e)) (.n 39 (.fn b39) (.n 38 (.fn b38) .e .e) .e)) (.n 44 (.fn b44) (.n 42 (.fn b42) (.n 41 (.fn b41) .e .e) (.n 43 (.fn b43) .e .e)) (.n 46 (.fn b46) (.n 45 (.fn b45) .e .e) .e))) (.n 54 (.fn b54) (.n 51 (.fn b51) (.n 49 (.fn b49) (.n 48 (.fn b48) .e .e) (.n 50 (.fn b50) .e .e)) (.n 53 (.fn b53) (.n 52 (.fn b52) .e .e) .e)) (.n 60 (.fn b60) (.n 56 (.fn b56) (.n 55 (.fn b55) .e .e) .e) (.n 62 (.fn b62) (.n 61 (.fn b61) .e .e) .e))))) (.n 95 (.fn b95) (.n 80 (.fn b80) (.n 70 (.fn b70) (.n 67 (.fn b67) (.n 65 (.fn b65) (.n 64 (.fn b64) .e .e) (.n 66 (.fn b66) .e .e)) (.n 69 (.fn b69) (.n 68 (.fn b68) .e .e) .e)) (.n 76 (.fn b76) (.n 72 (.fn b72) (.n 71 (.fn b71) .e .e) (.n 74 (.fn b74) .e .e)) (.n 79 (.fn b79) (.n 78 (.fn b78) .e .e) .e))) (.n 87 (.fn b87) (.n 84 (.fn b84) (.n 82 (.fn b82) (.n 81 (.fn b81) .e .e) (.n 83 (.fn b83) .e .e)) (.n 86 (.fn b86) (.n 85 (.fn o85) .e .e) .e)) (.n 92 (.fn b92) (.n 89 (.fn b89) (.n 88 (.fn b88) .e .e) (.n 90 (.fn b90) .e .e)) (.n 94 (.fn b94) (.n 93 (.fn b93) .e .e) .e)))) (.n 112 (.fn b112) (.n 102 (.fn b102) (.n 99 (.fn b99) (.n 97 (.fn b97) (.n 96 (.fn b96) .e .e) (.n 98 (.fn b98) .e .e)) (.n 101 (.fn b101) (.n 100 (.fn b100) .e .e) .e)) (.n 106 (.fn b106) (.n 104 (.fn b104) (.n 103 (.fn b103) .e .e) (.n 105 (.fn b105) .e .e)) (.n 108 (.fn b108) (.n 107 (.fn b107) .e .e) .e))) (.n 119 (.fn b119) (.n 116 (.fn b116) (.n 114 (.fn b114) (.n 113 (.fn b113) .e .e) (.n 115 (.fn b115) .e .e)) (.n 118 (.fn b118) (.n 117 (.fn b117) .e .e) .e)) (.n 122 (.fn b122) (.n 121 (.fn b121) (.n 120 (.fn b120) .e .e) .e) (.n 127 (.fn b127) (.n 123 (.fn b123) .e .e) .e)))))) (.n 212 (.fn b212) (.n 170 (.fn b170) (.n 154 (.fn b154) (.n 144 (.fn b144) (.n 132 (.fn b132) (.n 130 (.fn b130) (.n 129 (.fn b129) .e .e) (.n 131 (.fn b131) .e .e)) (.n 143 (.fn b143) (.n 142 (.fn b142) .e .e) .e)) (.n 148 (.fn b148) (.n 146 (.fn b146) (.n 145 (.fn b145) .e .e) (.n 147 (.fn b147) .e .e)) (.n 153 (.fn b153) (.n 152 (.fn b152) .e .e) .e))) (.n 163 (.fn b163) (.n 159 (.fn b159) (.n 156 (.fn b156) (.n 155 (.fn b155) .e .e) (.n 157 (.fn b157) .e .e)) (.n 162 (.fn b162) (.n 160 (.fn b160) .e .e) .e)) (.n 167 (.fn b167) (.n 165 (.fn b165) (.n 164 (.fn b164) .e .e) (.n 166 (.fn b166) .e .e)) (.n 169 (.fn b169) (.n 168 (.fn b168) .e .e) .e)))) (.n 189 (.fn b189) (.n 178 (.fn b178) (.n 175 (.fn b175) (.n 173 (.fn b173) (.n 172 (.fn b172) .e .e) (.n 174 (.fn b174) .e .e)) (.n 177 (.fn b177) (.n 176 (.fn b176) .e .e) .e)) (.n 184 (.fn b184) (.n 180 (.fn b180) (.n 179 (.fn b179) .e .e) (.n 181 (.fn b181) .e .e)) (.n 186 (.fn b186) (.n 185 (.fn b185) .e .e) .e))) (.n 203 (.fn b203) (.n 195 (.fn b195) (.n 192 (.fn b192) (.n 191 (.fn b191) .e .e) (.n 194 (.fn b194) .e .e)) (.n 202 (.fn b202) (.n 201 (.fn b201) .e .e) .e)) (.n 207 (.fn b207) (.n 206 (.fn b206) (.n 205 (.fn b205) .e .e) .e) (.n 211 (.fn b211) (.n 208 (.fn b208) .e .e) .e))))) (.n 277 (.fn b277) (.n 230 (.fn b230) (.n 221 (.fn b221) (.n 217 (.fn b217) (.n 214 (.fn b214) (.n 213 (.fn b213) .e .e) (.n 216 (.fn b216) .e .e)) (.n 219 (.fn b219) (.n 218 (.fn b218) .e .e) .e)) (.n 226 (.fn b226) (.n 224 (.fn b224) (.n 222 (.fn b222) .e .e) (.n 225 (.fn b225) .e .e)) (.n 229 (.fn b229) (.n 227 (.fn b227) .e .e) .e))) (.n 241 (.fn b241) (.n 237 (.fn b237) (.n 232 (.fn b232) (.n 231 (.fn b231) .e .e) (.n 233 (.fn b233) .e .e)) (.n 240 (.fn b240) (.n 239 (.fn b239) .e .e) .e)) (.n 263 (.fn b263) (.n 257 (.fn b257) (.n 255 (.fn b255) .e .e) .e) (.n 276 (.fn b276) (.n 266 (.fn b266) .e .e) .e)))) (.n 320 (.ext xIndexByte) (.n 286 (.fn b286) (.n 282 (.fn b282) (.n 280 (.fn b280) (.n 279 (.fn b279) .e .e) (.n 281 (.fn b281) .e .e)) (.n 284 (.fn b284) (.n 283 (.fn b283) .e .e) .e)) (.n 292 (.fn b292) (.n 290 (.fn b290) (.n 289 (.fn b289) .e .e) (.n 291 (.fn b291) .e .e)) (.n 317 (.fn b317) (.n 316 (.fn b316) .e .e) .e))) (.n 349 (.fn b349) (.n 338 (.fn b338) (.n 322 (.fn b322) (.n 321 (.fn b321) .e .e) (.n 323 (.fn b323) .e .e)) (.n 348 (.fn b348) (.n 347 (.fn b347) .e .e) .e)) (.n 362 (.fn b362) (.n 354 (.ext (xMakeNoZero 5)) (.n 353 (.ext xNoEscape) .e .e) .e) (.n 376 (.fn b376) (.n 368 (.ext xCount) .e .e) .e)))))))
theorem tab_ok : TabOk prg tab := ⟨s128,⟨s63,⟨s33,⟨s17,⟨s10,⟨s7,⟨s5,⟨s4,trivial,trivial⟩,⟨s6,trivial,trivial⟩⟩,⟨s9,⟨s8,trivial,trivial⟩,trivial⟩⟩,⟨s14,⟨s12,⟨s11,trivial,trivial⟩,⟨s13,trivial,trivial⟩⟩,⟨s16,⟨s15,trivial,trivial⟩,trivial⟩⟩⟩,⟨s26,⟨s21,⟨s19,⟨s18,trivial,trivial⟩,⟨s20,trivial,trivial⟩⟩,⟨s25,⟨s22,trivial,trivial⟩,trivial⟩⟩,⟨s30,⟨s28,⟨s27,trivial,trivial⟩,⟨s29,trivial,trivial⟩⟩,⟨s32,⟨s31,trivial,trivial⟩,trivial⟩⟩⟩⟩,⟨s47,⟨s40,⟨s37,⟨s35,⟨s34,trivial,trivial⟩,⟨s36,trivial,trivial⟩⟩,⟨s39,⟨s38,trivial,trivial⟩,trivial⟩⟩,⟨s44,⟨s42,⟨s41,trivial,trivial⟩,⟨s43,trivial,trivial⟩⟩,⟨s46,⟨s45,trivial,trivial⟩,trivial⟩⟩⟩,⟨s54,⟨s51,⟨s49,⟨s48,trivial,trivial⟩,⟨s50,trivial,trivial⟩⟩,⟨s53,⟨s52,trivial,trivial⟩,trivial⟩⟩,⟨s60,⟨s56,⟨s55,trivial,trivial⟩,trivial⟩,⟨s62,⟨s61,trivial,trivial⟩,trivial⟩⟩⟩⟩⟩,⟨s95,⟨s80,⟨s70,⟨s67,⟨s65,⟨s64,trivial,trivial⟩,⟨s66,trivial,trivial⟩⟩,⟨s69,⟨s68,trivial,trivial⟩,trivial⟩⟩,⟨s76,⟨s72,⟨s71,trivial,trivial⟩,⟨s74,trivial,trivial⟩⟩,⟨s79,⟨s78,trivial,trivial⟩,trivial⟩⟩⟩,⟨s87,⟨s84,⟨s82,⟨s81,trivial,trivial⟩,⟨s83,trivial,trivial⟩⟩,⟨s86,⟨so85,trivial,trivial⟩,trivial⟩⟩,⟨s92,⟨s89,⟨s88,trivial,trivial⟩,⟨s90,trivial,trivial⟩⟩,⟨s94,⟨s93,trivial,trivial⟩,trivial⟩⟩⟩⟩,⟨s112,⟨s102,⟨s99,⟨s97,⟨s96,trivial,trivial⟩,⟨s98,trivial,trivial⟩⟩,⟨s101,⟨s100,trivial,trivial⟩,trivial⟩⟩,⟨s106,⟨s104,⟨s103,trivial,trivial⟩,⟨s105,trivial,trivial⟩⟩,⟨s108,⟨s107,trivial,trivial⟩,trivial⟩⟩⟩,⟨s119,⟨s116,⟨s114,⟨s113,trivial,trivial⟩,⟨s115,trivial,trivial⟩⟩,⟨s118,⟨s117,trivial,trivial⟩,trivial⟩⟩,⟨s122,⟨s121,⟨s120,trivial,trivial⟩,trivial⟩,⟨s127,⟨s123,trivial,trivial⟩,trivial⟩⟩⟩⟩⟩⟩,⟨s212,⟨s170,⟨s154,⟨s144,⟨s132,⟨s130,⟨s129,trivial,trivial⟩,⟨s131,trivial,trivial⟩⟩,⟨s143,⟨s142,trivial,trivial⟩,trivial⟩⟩,⟨s148,⟨s146,⟨s145,trivial,trivial⟩,⟨s147,trivial,trivial⟩⟩,⟨s153,⟨s152,trivial,trivial⟩,trivial⟩⟩⟩,⟨s163,⟨s159,⟨s156,⟨s155,trivial,trivial⟩,⟨s157,trivial,trivial⟩⟩,⟨s162,⟨s160,trivial,trivial⟩,trivial⟩⟩,⟨s167,⟨s165,⟨s164,trivial,trivial⟩,⟨s166,trivial,trivial⟩⟩,⟨s169,⟨s168,trivial,trivial⟩,trivial⟩⟩⟩⟩,⟨s189,⟨s178,⟨s175,⟨s173,⟨s172,trivial,trivial⟩,⟨s174,trivial,trivial⟩⟩,⟨s177,⟨s176,trivial,trivial⟩,trivial⟩⟩,⟨s184,⟨s180,⟨s179,trivial,trivial⟩,⟨s181,trivial,trivial⟩⟩,⟨s186,⟨s185,trivial,trivial⟩,trivial⟩⟩⟩,⟨s203,⟨s195,⟨s192,⟨s191,trivial,trivial⟩,⟨s194,trivial,trivial⟩⟩,⟨s202,⟨s201,trivial,trivial⟩,trivial⟩⟩,⟨s207,⟨s206,⟨s205,trivial,trivial⟩,trivial⟩,⟨s211,⟨s208,trivial,trivial⟩,trivial⟩⟩⟩⟩⟩,⟨s277,⟨s230,⟨s221,⟨s217,⟨s214,⟨s213,trivial,trivial⟩,⟨s216,trivial,trivial⟩⟩,⟨s219,⟨s218,trivial,trivial⟩,trivial⟩⟩,⟨s226,⟨s224,⟨s222,trivial,trivial⟩,⟨s225,trivial,trivial⟩⟩,⟨s229,⟨s227,trivial,trivial⟩,trivial⟩⟩⟩,⟨s241,⟨s237,⟨s232,⟨s231,trivial,trivial⟩,⟨s233,trivial,trivial⟩⟩,⟨s240,⟨s239,trivial,trivial⟩,trivial⟩⟩,⟨s263,⟨s257,⟨s255,trivial,trivial⟩,trivial⟩,⟨s276,⟨s266,trivial,trivial⟩,trivial⟩⟩⟩⟩,⟨e320,⟨s286,⟨s282,⟨s280,⟨s279,trivial,trivial⟩,⟨s281,trivial,trivial⟩⟩,⟨s284,⟨s283,trivial,trivial⟩,trivial⟩⟩,⟨s292,⟨s290,⟨s289,trivial,trivial⟩,⟨s291,trivial,trivial⟩⟩,⟨s317,⟨s316,trivial,trivial⟩,trivial⟩⟩⟩,⟨s349,⟨s338,⟨s322,⟨s321,trivial,trivial⟩,⟨s323,trivial,trivial⟩⟩,⟨s348,⟨s347,trivial,trivial⟩,trivial⟩⟩,⟨s362,⟨e354,⟨e353,trivial,trivial⟩,trivial⟩,⟨s376,⟨e368,trivial,trivial⟩,trivial⟩⟩⟩⟩⟩⟩⟩
noncomputable def ttab : TTab := (.n 13 45 c13 (.n 6 26 c6 (.n 3 59 c3 (.n 1 128 c1 (.n 0 128 c0 .e .e) (.n 2 59 c2 .e .e)) (.n 5 115 c5 (.n 4 115 c4 .e .e) .e)) (.n 10 13 c10 (.n 8 17 c8 (.n 7 26 c7 .e .e) (.n 9 17 c9 .e .e)) (.n 12 45 c12 (.n 11 13 c11 .e .e) .e))) (.n 20 19 c20 (.n 17 20 c17 (.n 15 45 c15 (.n 14 45 c14 .e .e) (.n 16 20 c16 .e .e)) (.n 19 13 c19 (.n 18 13 c18 .e .e) .e)) (.n 23 13 c23 (.n 22 13 c22 (.n 21 19 c21 .e .e) .e) (.n 25 13 c25 (.n 24 13 c24 .e .e) .e))))
theorem ttab_ok : TTabOk prg ttab := ⟨sc13,⟨sc6,⟨sc3,⟨sc1,⟨sc0,trivial,trivial⟩,⟨sc2,trivial,trivial⟩⟩,⟨sc5,⟨sc4,trivial,trivial⟩,trivial⟩⟩,⟨sc10,⟨sc8,⟨sc7,trivial,trivial⟩,⟨sc9,trivial,trivial⟩⟩,⟨sc12,⟨sc11,trivial,trivial⟩,trivial⟩⟩⟩,⟨sc20,⟨sc17,⟨sc15,⟨sc14,trivial,trivial⟩,⟨sc16,trivial,trivial⟩⟩,⟨sc19,⟨sc18,trivial,trivial⟩,trivial⟩⟩,⟨sc23,⟨sc22,⟨sc21,trivial,trivial⟩,trivial⟩,⟨sc25,⟨sc24,trivial,trivial⟩,trivial⟩⟩⟩⟩
end Tb
end
