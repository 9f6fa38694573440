import Derived.Test.YtbckhfmmoeegaaaGreatDoorH8
import Derived.Test.YtbckhfmmoeegaaaGreatDoorAll
section
set_option autoImplicit false
set_option maxRecDepth 1000000
namespace Tb
open Go Hb
theorem knownE : isBool true 100000 ((run tab ttab 1000).h 5 [] ⟨.e, 0, 0⟩) = true := by decide +kernel
noncomputable def knownX : Fun := knownF true 100000
theorem knownX_ok : SOk prg 5 knownX := knownF_ok (run_ok tab_ok ttab_ok 1000) knownE
end Tb
end
section
set_option autoImplicit false
set_option maxRecDepth 100000
set_option linter.unusedVariables false
namespace Tb
open Go Hb
noncomputable def b3q1 (R : Rec) (v74 : AV) (d44 : List (Nat × Nat)) (v79 : AV) (s80 : ES) : Res := (jv (fun v83 s84 => (jv (fun v87 s88 => (pPick v74 v87 (.b false) fun v91 => (eLeave d44 s88 fun s92 => (some (.ret v91 s92))))) fun K89 => eGuard v74 true (bEql v83 (.i .i64 1) fun v90 => K89 v90 s84) (K89 (.tup []) s84))) fun K85 => eGuard v74 true (pLen false v79 fun v86 => K85 v86 s80) (K85 (.tup []) s80))
noncomputable def b3q2 (R : Rec) (v66 : AV) (d44 : List (Nat × Nat)) (v54 v53 : AV) (s63 : ES) : Res := (jv (fun v67 s68 => (jv (fun v70 s71 => (pPick v66 v70 (.b false) fun v74 => (jv (fun v75 s76 => (jv (fun v79 s80 => (b3q1 R v74 d44 v79 s80)) fun K81 => eGuard v74 true (pLoad s76 false 1 v75 fun v82 => K81 v82 s76) (K81 (.tup []) s76))) fun K77 => eGuard v74 true (pFadr s71 2 v54 fun v78 => K77 v78 s71) (K77 (.tup []) s71)))) fun K72 => eGuard v66 true (bEql v67 (.i .i64 0) fun v73 => K72 v73 s68) (K72 (.tup []) s68))) fun K69 => eGuard v66 true (K69 v53 s63) (K69 (.tup []) s63))
noncomputable def b3q3 (R : Rec) (v25 : AV) (d44 : List (Nat × Nat)) (v54 v53 v24 : AV) (s57 : ES) : Res := (bEql v25 (.i .i64 0) fun v58 => (jv (fun v59 s60 => (jv (fun v62 s63 => (pPick v58 v62 (.b false) fun v66 => (b3q2 R v66 d44 v54 v53 s63))) fun K64 => eGuard v58 true (bEql v59 (.i .i64 0) fun v65 => K64 v65 s60) (K64 (.tup []) s60))) fun K61 => eGuard v58 true (K61 v24 s57) (K61 (.tup []) s57)))
noncomputable def b3q4 (R : Rec) (v49 : AV) (s50 : ES) (v51 v25 : AV) (d44 : List (Nat × Nat)) (v24 : AV) : Res := (pExt v49 2 fun v53 => (pRow s50 28 [(.s []), (.ns), (.ns), (.ns), (.ns), (.ns)] fun v54 s55 => (pStore s55 6 v54 v51 fun v56 s57 => (b3q3 R v25 d44 v54 v53 v24 s57))))
noncomputable def b3j5 (R : Rec) (v26 v25 v24 : AV) : Cur [] := fun d44 s45 => (pLoad s45 true 6 v26 fun v46 => (callK (b7 R [v46] s45) fun v47 s48 => (callK (R.f 6 [v47] s48) fun v49 s50 => (pExt v49 0 fun v51 => (pExt v49 1 fun v52 => (b3q4 R v49 s50 v51 v25 d44 v24))))))
noncomputable def b3q6 (R : Rec) (v96 : AV) (d42 : List (Nat × Nat)) (v97 v103 : AV) (s104 : ES) : Res := (jv (fun v107 s108 => (jv (fun v111 s112 => (pPick v96 v111 (.b false) fun v115 => (eLeave d42 s112 fun s116 => (some (.ret v115 s116))))) fun K113 => eGuard v96 true (bEql v97 v107 fun v114 => K113 v114 s108) (K113 (.tup []) s108))) fun K109 => eGuard v96 true (bAdd v103 (.i .i64 1) fun v110 => K109 v110 s104) (K109 (.tup []) s104))
noncomputable def b3q7 (R : Rec) (v25 : AV) (d42 : List (Nat × Nat)) (v12 v24 : AV) (s43 : ES) : Res := (bEql v25 (.i .i64 72) fun v96 => (jv (fun v97 s98 => (jv (fun v100 s101 => (jv (fun v103 s104 => (b3q6 R v96 d42 v97 v103 s104)) fun K105 => eGuard v96 true (pLen true v100 fun v106 => K105 v106 s101) (K105 (.tup []) s101))) fun K102 => eGuard v96 true (K102 v12 s98) (K102 (.tup []) s98))) fun K99 => eGuard v96 true (K99 v24 s43) (K99 (.tup []) s43)))
noncomputable def b3j8 (R : Rec) (v26 v25 v24 v8 v11 v12 : AV) : Cur [] := fun d42 s43 => (jn [] (b3j5 R v26 v25 v24) fun K93 => (bMul v8 v11 fun v94 => (bGtr v94 (.i .i64 60) fun v95 => (eCond v95 (b3q7 R v25 d42 v12 v24 s43) (K93 d42 s43)))))
noncomputable def b3q9 (R : Rec) (v118 : AV) (d16 : List (Nat × Nat)) (K117 : Cur []) (v36 : AV) (s41 : ES) : Res := (jv (fun v119 s120 => (jv (fun v122 s123 => (pPick v118 (.b true) v122 fun v126 => (eCond v126 (eLeave d16 s123 fun s127 => (some (.ret (.b false) s127))) (K117 d16 s123)))) fun K124 => eGuard v118 false (bNeq v119 (.i .i64 0) fun v125 => K124 v125 s120) (K124 (.tup []) s120))) fun K121 => eGuard v118 false (K121 v36 s41) (K121 (.tup []) s41))
noncomputable def b3q10 (R : Rec) (s34 : ES) (v35 v26 v25 v24 v8 v11 v12 v37 : AV) (d16 : List (Nat × Nat)) (v36 : AV) : Res := (pRow s34 28 [(.s []), (.ns), (.ns), (.ns), (.ns), (.ns)] fun v38 s39 => (pStore s39 6 v38 v35 fun v40 s41 => (jn [] (b3j8 R v26 v25 v24 v8 v11 v12) fun K117 => (bNeq v37 (.i .i64 90) fun v118 => (b3q9 R v118 d16 K117 v36 s41)))))
noncomputable def b3q11 (R : Rec) (v31 : AV) (s29 : ES) (v26 v25 v24 v8 v11 v12 : AV) (d16 : List (Nat × Nat)) : Res := (bAdd v31 (.s [10]) fun v32 => (callK (R.f 6 [v32] s29) fun v33 s34 => (pExt v33 0 fun v35 => (pExt v33 1 fun v36 => (pExt v33 2 fun v37 => (b3q10 R s34 v35 v26 v25 v24 v8 v11 v12 v37 d16 v36))))))
noncomputable def b3q12 (R : Rec) (v15 v12 : AV) (s29 : ES) (v26 v25 v24 v8 v11 : AV) (d16 : List (Nat × Nat)) : Res := (bAdd v15 (.s [32, 62, 60, 10]) fun v30 => (bAdd v30 v12 fun v31 => (b3q11 R v31 s29 v26 v25 v24 v8 v11 v12 d16)))
noncomputable def b3q13 (R : Rec) (v21 : AV) (s22 : ES) (v15 v12 v8 v11 : AV) (d16 : List (Nat × Nat)) : Res := (pExt v21 0 fun v23 => (pExt v21 1 fun v24 => (pExt v21 2 fun v25 => (pRow s22 28 [(.s []), (.ns), (.ns), (.ns), (.ns), (.ns)] fun v26 s27 => (pStore s27 6 v26 v23 fun v28 s29 => (b3q12 R v15 v12 s29 v26 v25 v24 v8 v11 d16))))))
noncomputable def b3j14 (R : Rec) (v12 v8 v11 : AV) : Cur [8] := fun v15 d16 s17 => (bAdd v12 (.s [10]) fun v18 => (bAdd v18 v15 fun v19 => (bAdd v19 (.s [32, 62, 60, 10]) fun v20 => (callK (R.f 6 [v20] s17) fun v21 s22 => (b3q13 R v21 s22 v15 v12 v8 v11 d16)))))
noncomputable def b3j15 (R : Rec) (v131 : AV) (K129 : Cur [8, 10]) : Cur [8] := fun v136 d137 s138 => (bAdd v131 (.i .i64 1) fun v139 => (K129 v136 v139 d137 s138))
noncomputable def b3j16 (R : Rec) (v131 : AV) (K129 : Cur [8, 10]) (v130 : AV) : Cur [] := fun d134 s135 => (jn [8] (b3j15 R v131 K129) fun K140 => (bAdd v130 (.s [32, 36, 118]) fun v141 => (K140 v141 d134 s135)))
noncomputable def b3l17 (R : Rec) (v11 : AV) (K128 : Cur [8]) : Cur [8, 10] → Cur [8, 10] := fun K129 v130 v131 d132 s133 => (jn [] (b3j16 R v131 K129 v130) fun K142 => (bLss v131 v11 fun v143 => (eCond v143 (K142 d132 s133) (K128 v130 d132 s133))))
noncomputable def b3j18 (R : Rec) (v8 v11 : AV) : Cur [7] := fun v12 d13 s14 => (jn [8] (b3j14 R v12 v8 v11) fun K128 => (lp [8, 10] 30000 (b3l17 R v11 K128) (.s [49, 58, 32]) (.i .i64 0) d13 s14))
noncomputable def b3j19 (R : Rec) (v147 : AV) (K145 : Cur [7, 9]) : Cur [7] := fun v152 d153 s154 => (bAdd v147 (.i .i64 1) fun v155 => (K145 v152 v155 d153 s154))
noncomputable def b3j20 (R : Rec) (v147 : AV) (K145 : Cur [7, 9]) (v146 : AV) : Cur [] := fun d150 s151 => (jn [7] (b3j19 R v147 K145) fun K156 => (bAdd v146 (.s [32, 39, 97]) fun v157 => (K156 v157 d150 s151)))
noncomputable def b3l21 (R : Rec) (v8 : AV) (K144 : Cur [7]) : Cur [7, 9] → Cur [7, 9] := fun K145 v146 v147 d148 s149 => (jn [] (b3j20 R v147 K145 v146) fun K158 => (bLss v147 v8 fun v159 => (eCond v159 (K158 d148 s149) (K144 v146 d148 s149))))
noncomputable def b3q22 (R : Rec) (v8 : AV) (K144 : Cur [7]) (d4 : List (Nat × Nat)) (s5 : ES) : Res := (lp [7, 9] 30000 (b3l21 R v8 K144) (.s [36, 118, 32, 61]) (.i .i64 0) d4 s5)
noncomputable def b3q23 (R : Rec) (v9 v8 : AV) (d4 : List (Nat × Nat)) (s5 : ES) : Res := (pInt .i64 v9 fun v10 => (bAdd v10 (.i .i64 1) fun v11 => (jn [7] (b3j18 R v8 v11) fun K144 => (b3q22 R v8 K144 d4 s5))))
noncomputable def b3j24 (R : Rec) (v1 v2 : AV) : Cur [] := fun d4 s5 => (bRem v1 (.i .u8 9) fun v6 => (pInt .i64 v6 fun v7 => (bAdd v7 (.i .i64 1) fun v8 => (bRem v2 (.i .u8 9) fun v9 => (b3q23 R v9 v8 d4 s5)))))
noncomputable def b3 (R : Rec) (args : List AV) (s3 : ES) : Res := argsK [0, 1] args (fun v1 v2 => (jn [] (b3j24 R v1 v2) fun K160 => (callK (knownX R [] s3) fun v161 s162 => (pUn .not v161 fun v163 => (eCond v163 (some (.ret (.b false) s162)) (K160 [] s162))))))
theorem h3 : b3 = fun R args s => eEnt (withF 7 b7 R (withF 5 knownX R R)) 106 x3 r3 [0, 1] args s := by kernel_rfl
theorem s3 : SOk prg 3 b3 := SOk.of (Rk := fun R => withF 7 b7 R (withF 5 knownX R R)) hm ok3 rfl (by decide) (fun R h => (withF_ok s7 h (withF_ok knownX_ok h h))) h3
end Tb
end
section
set_option autoImplicit false
set_option maxRecDepth 100000
namespace Tb
open Go Hb
theorem bRem_mod (kd : IntKind) (a m : Nat) (k : KP) : bRem (.i kd (.ofNat a)) (.i kd (.ofNat m)) k = bRem (.i kd (.ofNat (a % m))) (.i kd (.ofNat m)) k := by
  show cnd (kEq kd kd) (iRem kd (.ofNat a) (.ofNat m) k) none = cnd (kEq kd kd) (iRem kd (.ofNat (a % m)) (.ofNat m) k) none
  rw [iRem_eq, iRem_eq]
  have : (Int.ofNat a).tmod (Int.ofNat m) = (Int.ofNat (a % m)).tmod (Int.ofNat m) := by
    show Int.ofNat (a % m) = Int.ofNat (a % m % m)
    rw [Nat.mod_mod]
  rw [this]
theorem j24 {v1 w1 v2 w2 : AV} (h1 : ∀ K, bRem v1 (.i .u8 9) K = bRem w1 (.i .u8 9) K) (h2 : ∀ K, bRem v2 (.i .u8 9) K = bRem w2 (.i .u8 9) K) (R : Rec) : b3j24 R v1 v2 = b3j24 R w1 w2 := by
  unfold b3j24
  simp only [h1, h2]
  rfl
theorem red (R : Rec) (m k : Nat) (s : ES) : b3 R [.i .u8 (.ofNat m), .i .u8 (.ofNat k)] s = b3 R [.i .u8 (.ofNat (m % 9)), .i .u8 (.ofNat (k % 9))] s := by
  have := j24 (fun K => bRem_mod .u8 m 9 K) (fun K => bRem_mod .u8 k 9 K) R
  let B : Cur [] → Res := fun K160 => (callK (knownX R [] s) fun v161 s162 => (pUn .not v161 fun v163 => (eCond v163 (some (.ret (.b false) s162)) (K160 [] s162))))
  show jn [] (b3j24 R (.i .u8 (.ofNat m)) (.i .u8 (.ofNat k))) B = jn [] (b3j24 R (.i .u8 (.ofNat (m % 9))) (.i .u8 (.ofNat (k % 9)))) B
  rw [this]
end Tb
end
section
set_option autoImplicit false
set_option maxRecDepth 1000000
namespace Tb
open Go Hb
/-! The text that is printed of a source of one variable and one rule, and its signs. -/
abbrev Pc := List Nat × Option (Nat × List Nat × Nat)
noncomputable def sg (c : Nat) : Pc := ([c], some (6, [c], 0))
noncomputable def sp : Pc := ([32], none)
noncomputable def leafP : List Pc := [sg 91, ([39, 92, 117, 123, 54, 49, 125], some (4, [], 97)), sg 93]
noncomputable def grp (k : Nat) : List Pc := Nat.rec (motive := fun _ => List Pc) leafP (fun _ ih => sg 40 :: (ih ++ sp :: (leafP ++ [sg 41]))) k
noncomputable def grps (k j : Nat) : List Pc := Nat.rec (motive := fun _ => List Pc) (grp k) (fun _ ih => sg 40 :: (ih ++ sp :: (grp k ++ [sg 41]))) j
noncomputable def pcs (k j : Nat) : List Pc := ([36, 118], some (1, [118], 0)) :: sp :: sg 61 :: sp :: (grp k ++ ([10], some (7, [], 0)) :: ([49], some (3, [49], 0)) :: sg 58 :: sp :: (grps k j ++ [sp, ([62, 60], some (6, [62, 60], 0)), sp, sg 40, sg 41, ([10], some (7, [], 0))]))
noncomputable def strOf (k j : Nat) : List Nat := List.rec (motive := fun _ => List Nat) [] (fun p _ ih => p.1 ++ ih) (pcs k j)
noncomputable def tok (k a : Nat) (t : List Nat) (r : Nat) (l : List AV) : List AV := .i .i64 (.ofNat k) :: .i .i64 (.ofNat a) :: .s t :: .i .i32 (.ofNat r) :: l
noncomputable def toksOf (l : List Pc) : Nat → List AV :=
  List.rec (motive := fun _ => Nat → List AV) (fun a => tok 0 a [] 0 []) (fun p _ ih a => Option.rec (motive := fun _ => List AV) (ih (Nat.add a p.1.length)) (fun t => tok t.1 a t.2.1 t.2.2 (ih (Nat.add a p.1.length))) p.2) l
noncomputable def row (k j : Nat) : List AV := toksOf (pcs k j) 0
noncomputable def bl0 (p q r : Nat) : List (Nat × Blk) := [(0, .cells p false 28 0 [.s [], .ns, .ns, .ns, .ns, .ns]), (1, .cells q false 3 0 [.i .i64 0]), (2, .cells r false 29 0 [.i .i64 0])]
noncomputable def blS (p q r st : Nat) (cs : List AV) : List (Nat × Blk) := [(0, .cells p false 28 0 [.s [], .ns, .ns, .ns, .ns, .ns]), (1, .cells q false 3 0 [.i .i64 0]), (2, .cells r false 29 0 [.i .i64 0]), (15, .cells st false 62 0 cs)]
noncomputable def vS (st n : Nat) : AV := .tup [.gr 15 st 0 n 4, .i .i64 0, .i .i64 0]
noncomputable def vP (r st r' st' : Nat) : AV := .tup [.agg [.s [], .gr r st 0 1 6, .gr r' st' 0 1 12, .ns, .ns, .ns], .i .i64 0, .i .i64 0]
noncomputable abbrev R0 : Rec := run tab ttab 1000
theorem R0_ok : RecOk prg R0 := run_ok tab_ok ttab_ok 1000
noncomputable def okS (a b p q r x0 st x1 n : Nat) : Bool := chk (vS st n) (blS p q r st (row a b)) x1 (runS b13 R0 (strOf a b) (bl0 p q r) 3 x0)
noncomputable def okP (a b p q r x0 st x1 n : Nat) (v : AV) (x3 : Nat) : Bool :=
  chk v [] x3 (runS b6 (withF 13 (memoT [.s (strOf a b)] (bl0 p q r) x0 (vS st n) (row a b) (blS p q r st) 16 x1) R0 R0) (strOf a b) [] 0 p)
noncomputable def okL (a b p : Nat) (v : AV) (x3 : Nat) : Bool :=
  isBool true 1000000000 (b3 (withF 6 (orF (memoF [.s (strOf a b)] [] p v ⟨.e, 0, x3⟩) b6) R0 R0) [.i .u8 (.ofNat a), .i .u8 (.ofNat b)] ⟨.e, 0, 0⟩)
def OKc (a b : Nat) : Prop := ∃ R, RecOk prg R ∧ isBool true 1000000000 (b3 R [.i .u8 (.ofNat a), .i .u8 (.ofNat b)] ⟨.e, 0, 0⟩) = true
noncomputable def okc (a b : Nat) : Bool := isBool true 1000000000 (b3 R0 [.i .u8 (.ofNat a), .i .u8 (.ofNat b)] ⟨.e, 0, 0⟩)
theorem OKc.one {a b : Nat} (h : okc a b = true) : OKc a b := ⟨R0, R0_ok, h⟩
theorem OKc.of {a b p q r x0 st x1 n : Nat} {v : AV} {x3 : Nat} (h1 : okS a b p q r x0 st x1 n = true) (h2 : okP a b p q r x0 st x1 n v x3 = true) (h3 : okL a b p v x3 = true) : OKc a b := by
  have m1 : SOk prg 13 (memoT [.s (strOf a b)] (bl0 p q r) x0 (vS st n) (row a b) (blS p q r st) 16 x1) := by
    rw [memoT_eq]
    exact memoF_okR (fun a h => runS_ok s13 R0_ok a h) h1
  have m2 : SOk prg 6 (memoF [.s (strOf a b)] [] p v ⟨.e, 0, x3⟩) := memoF_okR (bl1 := []) (fun a h => runS_ok s6 (withF_ok m1 R0_ok R0_ok) a h) h2
  exact ⟨_, withF_ok (orF_ok m2 s6) R0_ok R0_ok, h3⟩
def Upto (p : Nat → Prop) : Nat → Prop
  | 0 => True
  | n + 1 => Upto p n ∧ p n
theorem Upto.get {p : Nat → Prop} : ∀ {n : Nat}, Upto p n → ∀ a, a < n → p a
  | 0, _, a, h => by omega
  | n + 1, ⟨h1, h2⟩, a, h => by
    by_cases e : a = n
    · subst e; exact h2
    · exact h1.get a (by omega)
end Tb
end
