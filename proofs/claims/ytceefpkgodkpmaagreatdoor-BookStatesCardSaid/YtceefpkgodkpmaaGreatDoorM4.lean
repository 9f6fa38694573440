import Derived.Test.YtceefpkgodkpmaaGreatDoorE0
import Derived.Test.YtceefpkgodkpmaaGreatDoorE1
import Derived.Test.YtceefpkgodkpmaaGreatDoorE2
import Derived.Test.YtceefpkgodkpmaaGreatDoorE3
import Derived.Test.YtceefpkgodkpmaaGreatDoorE4
import Derived.Test.YtceefpkgodkpmaaGreatDoorE5
import Derived.Test.YtceefpkgodkpmaaGreatDoorE6
import Derived.Test.YtceefpkgodkpmaaGreatDoorE7
import Derived.Test.YtceefpkgodkpmaaGreatDoorE8
import Derived.Test.YtceefpkgodkpmaaGreatDoorE9
import Derived.Test.YtceefpkgodkpmaaGreatDoorE10
import Derived.Test.YtceefpkgodkpmaaGreatDoorE11
import Derived.Test.YtceefpkgodkpmaaGreatDoorE12
import Derived.Test.YtceefpkgodkpmaaGreatDoorE13
import Derived.Test.YtceefpkgodkpmaaGreatDoorE14
import Derived.Test.YtceefpkgodkpmaaGreatDoorE15
set_option autoImplicit false
set_option maxRecDepth 1000000
namespace Tb
open Go Hb
theorem m4f : SOk prg 101 (memoN a4f bl4f 102188 (l4f_0 ++ (l4f_1))) := memoN_ok (n0 := 2010) s101 R0_ok globFlat (by decide +kernel) (by decide +kernel) (chkM_append t4f_0 t4f_1)
theorem w4f : SOk prg 107 (memoR [r4f_0,r4f_1,r4f_2,r4f_3,r4f_4,r4f_5,r4f_6,r4f_7,r4f_8,r4f_9,r4f_10,r4f_11]) := memoR_ok s107 R0_ok globFlat (fun e he => by
  simp only [List.mem_cons,List.not_mem_nil,or_false] at he
  rcases he with rfl | rfl | rfl | rfl | rfl | rfl | rfl | rfl | rfl | rfl | rfl | rfl
  · exact q4f_0
  · exact q4f_1
  · exact q4f_2
  · exact q4f_3
  · exact q4f_4
  · exact q4f_5
  · exact q4f_6
  · exact q4f_7
  · exact q4f_8
  · exact q4f_9
  · exact q4f_10
  · exact q4f_11
)
theorem c4f : OKc 4 false := ⟨R4f,(run_ok (T := .n 101 (.fn (orF (memoN a4f bl4f 102188 (l4f_0 ++ (l4f_1))) b101)) tab (.n 107 (.fn (orF (memoR [r4f_0,r4f_1,r4f_2,r4f_3,r4f_4,r4f_5,r4f_6,r4f_7,r4f_8,r4f_9,r4f_10,r4f_11]) b107)) tab tab)) ⟨orF_ok m4f s101,tab_ok,⟨orF_ok w4f s107,tab_ok,tab_ok⟩⟩ ttab_ok 1000),f4f⟩
theorem m4t : SOk prg 101 (memoN a4t bl4t 102524 (l4f_0 ++ (l4f_1))) := memoN_ok (n0 := 2329) s101 R0_ok globFlat (by decide +kernel) (by decide +kernel) (chkM_append t4t_0 t4t_1)
theorem w4t : SOk prg 107 (memoR [r4t_0,r4t_1,r4t_2,r4t_3,r4t_4,r4t_5,r4t_6,r4t_7,r4t_8,r4t_9,r4t_10,r4t_11]) := memoR_ok s107 R0_ok globFlat (fun e he => by
  simp only [List.mem_cons,List.not_mem_nil,or_false] at he
  rcases he with rfl | rfl | rfl | rfl | rfl | rfl | rfl | rfl | rfl | rfl | rfl | rfl
  · exact q4t_0
  · exact q4t_1
  · exact q4t_2
  · exact q4t_3
  · exact q4t_4
  · exact q4t_5
  · exact q4t_6
  · exact q4t_7
  · exact q4t_8
  · exact q4t_9
  · exact q4t_10
  · exact q4t_11
)
theorem c4t : OKc 4 true := ⟨R4t,(run_ok (T := .n 101 (.fn (orF (memoN a4t bl4t 102524 (l4f_0 ++ (l4f_1))) b101)) tab (.n 107 (.fn (orF (memoR [r4t_0,r4t_1,r4t_2,r4t_3,r4t_4,r4t_5,r4t_6,r4t_7,r4t_8,r4t_9,r4t_10,r4t_11]) b107)) tab tab)) ⟨orF_ok m4t s101,tab_ok,⟨orF_ok w4t s107,tab_ok,tab_ok⟩⟩ ttab_ok 1000),f4t⟩
theorem m5f : SOk prg 101 (memoN a5f bl5f 102547 (l5f_0 ++ (l5f_1 ++ (l5f_2 ++ (l5f_3))))) := memoN_ok (n0 := 2336) s101 R0_ok globFlat (by decide +kernel) (by decide +kernel) (chkM_append t5f_0 (chkM_append t5f_1 (chkM_append t5f_2 t5f_3)))
theorem w5f : SOk prg 107 (memoR [r5f_0,r5f_1,r5f_2,r5f_3,r5f_4,r5f_5,r5f_6,r5f_7,r5f_8,r5f_9,r5f_10,r5f_11,r5f_12,r5f_13,r5f_14]) := memoR_ok s107 R0_ok globFlat (fun e he => by
  simp only [List.mem_cons,List.not_mem_nil,or_false] at he
  rcases he with rfl | rfl | rfl | rfl | rfl | rfl | rfl | rfl | rfl | rfl | rfl | rfl | rfl | rfl | rfl
  · exact q5f_0
  · exact q5f_1
  · exact q5f_2
  · exact q5f_3
  · exact q5f_4
  · exact q5f_5
  · exact q5f_6
  · exact q5f_7
  · exact q5f_8
  · exact q5f_9
  · exact q5f_10
  · exact q5f_11
  · exact q5f_12
  · exact q5f_13
  · exact q5f_14
)
theorem c5f : OKc 5 false := ⟨R5f,(run_ok (T := .n 101 (.fn (orF (memoN a5f bl5f 102547 (l5f_0 ++ (l5f_1 ++ (l5f_2 ++ (l5f_3))))) b101)) tab (.n 107 (.fn (orF (memoR [r5f_0,r5f_1,r5f_2,r5f_3,r5f_4,r5f_5,r5f_6,r5f_7,r5f_8,r5f_9,r5f_10,r5f_11,r5f_12,r5f_13,r5f_14]) b107)) tab tab)) ⟨orF_ok m5f s101,tab_ok,⟨orF_ok w5f s107,tab_ok,tab_ok⟩⟩ ttab_ok 1000),f5f⟩
theorem m5t : SOk prg 101 (memoN a5t bl5t 102883 (l5f_0 ++ (l5f_1 ++ (l5f_2 ++ (l5f_3))))) := memoN_ok (n0 := 2655) s101 R0_ok globFlat (by decide +kernel) (by decide +kernel) (chkM_append t5t_0 (chkM_append t5t_1 (chkM_append t5t_2 t5t_3)))
theorem w5t : SOk prg 107 (memoR [r5t_0,r5t_1,r5t_2,r5t_3,r5t_4,r5t_5,r5t_6,r5t_7,r5t_8,r5t_9,r5t_10,r5t_11,r5t_12,r5t_13,r5t_14]) := memoR_ok s107 R0_ok globFlat (fun e he => by
  simp only [List.mem_cons,List.not_mem_nil,or_false] at he
  rcases he with rfl | rfl | rfl | rfl | rfl | rfl | rfl | rfl | rfl | rfl | rfl | rfl | rfl | rfl | rfl
  · exact q5t_0
  · exact q5t_1
  · exact q5t_2
  · exact q5t_3
  · exact q5t_4
  · exact q5t_5
  · exact q5t_6
  · exact q5t_7
  · exact q5t_8
  · exact q5t_9
  · exact q5t_10
  · exact q5t_11
  · exact q5t_12
  · exact q5t_13
  · exact q5t_14
)
theorem c5t : OKc 5 true := ⟨R5t,(run_ok (T := .n 101 (.fn (orF (memoN a5t bl5t 102883 (l5f_0 ++ (l5f_1 ++ (l5f_2 ++ (l5f_3))))) b101)) tab (.n 107 (.fn (orF (memoR [r5t_0,r5t_1,r5t_2,r5t_3,r5t_4,r5t_5,r5t_6,r5t_7,r5t_8,r5t_9,r5t_10,r5t_11,r5t_12,r5t_13,r5t_14]) b107)) tab tab)) ⟨orF_ok m5t s101,tab_ok,⟨orF_ok w5t s107,tab_ok,tab_ok⟩⟩ ttab_ok 1000),f5t⟩
theorem m6f : SOk prg 101 (memoN a6f bl6f 102906 (l5f_0 ++ (l6f_1 ++ (l6f_2 ++ (l6f_3 ++ (l6f_4)))))) := memoN_ok (n0 := 2662) s101 R0_ok globFlat (by decide +kernel) (by decide +kernel) (chkM_append t6f_0 (chkM_append t6f_1 (chkM_append t6f_2 (chkM_append t6f_3 t6f_4))))
theorem c6f : OKc 6 false := ⟨R6f,(run_ok (T := .n 101 (.fn (orF (memoN a6f bl6f 102906 (l5f_0 ++ (l6f_1 ++ (l6f_2 ++ (l6f_3 ++ (l6f_4)))))) b101)) tab tab) ⟨orF_ok m6f s101,tab_ok,tab_ok⟩ ttab_ok 1000),f6f⟩
theorem m6t : SOk prg 101 (memoN a6t bl6t 103242 (l5f_0 ++ (l6f_1 ++ (l6f_2 ++ (l6f_3 ++ (l6f_4)))))) := memoN_ok (n0 := 2981) s101 R0_ok globFlat (by decide +kernel) (by decide +kernel) (chkM_append t6t_0 (chkM_append t6t_1 (chkM_append t6t_2 (chkM_append t6t_3 t6t_4))))
theorem c6t : OKc 6 true := ⟨R6t,(run_ok (T := .n 101 (.fn (orF (memoN a6t bl6t 103242 (l5f_0 ++ (l6f_1 ++ (l6f_2 ++ (l6f_3 ++ (l6f_4)))))) b101)) tab tab) ⟨orF_ok m6t s101,tab_ok,tab_ok⟩ ttab_ok 1000),f6t⟩
theorem m7f : SOk prg 101 (memoN a7f bl7f 103265 (l5f_0 ++ (l6f_1 ++ (l6f_2 ++ (l6f_3 ++ (l6f_4)))))) := memoN_ok (n0 := 2988) s101 R0_ok globFlat (by decide +kernel) (by decide +kernel) (chkM_append t7f_0 (chkM_append t7f_1 (chkM_append t7f_2 (chkM_append t7f_3 t7f_4))))
theorem c7f : OKc 7 false := ⟨R7f,(run_ok (T := .n 101 (.fn (orF (memoN a7f bl7f 103265 (l5f_0 ++ (l6f_1 ++ (l6f_2 ++ (l6f_3 ++ (l6f_4)))))) b101)) tab tab) ⟨orF_ok m7f s101,tab_ok,tab_ok⟩ ttab_ok 1000),f7f⟩
theorem m7t : SOk prg 101 (memoN a7t bl7t 103601 (l5f_0 ++ (l6f_1 ++ (l6f_2 ++ (l6f_3 ++ (l6f_4)))))) := memoN_ok (n0 := 3307) s101 R0_ok globFlat (by decide +kernel) (by decide +kernel) (chkM_append t7t_0 (chkM_append t7t_1 (chkM_append t7t_2 (chkM_append t7t_3 t7t_4))))
theorem c7t : OKc 7 true := ⟨R7t,(run_ok (T := .n 101 (.fn (orF (memoN a7t bl7t 103601 (l5f_0 ++ (l6f_1 ++ (l6f_2 ++ (l6f_3 ++ (l6f_4)))))) b101)) tab tab) ⟨orF_ok m7t s101,tab_ok,tab_ok⟩ ttab_ok 1000),f7t⟩
theorem m8f : SOk prg 101 (memoN a8f bl8f 103624 (l5f_0 ++ (l6f_1 ++ (l6f_2 ++ (l6f_3 ++ (l6f_4)))))) := memoN_ok (n0 := 3314) s101 R0_ok globFlat (by decide +kernel) (by decide +kernel) (chkM_append t8f_0 (chkM_append t8f_1 (chkM_append t8f_2 (chkM_append t8f_3 t8f_4))))
theorem c8f : OKc 8 false := ⟨R8f,(run_ok (T := .n 101 (.fn (orF (memoN a8f bl8f 103624 (l5f_0 ++ (l6f_1 ++ (l6f_2 ++ (l6f_3 ++ (l6f_4)))))) b101)) tab tab) ⟨orF_ok m8f s101,tab_ok,tab_ok⟩ ttab_ok 1000),f8f⟩
theorem m8t : SOk prg 101 (memoN a8t bl8t 103960 (l5f_0 ++ (l6f_1 ++ (l6f_2 ++ (l6f_3 ++ (l6f_4)))))) := memoN_ok (n0 := 3633) s101 R0_ok globFlat (by decide +kernel) (by decide +kernel) (chkM_append t8t_0 (chkM_append t8t_1 (chkM_append t8t_2 (chkM_append t8t_3 t8t_4))))
theorem c8t : OKc 8 true := ⟨R8t,(run_ok (T := .n 101 (.fn (orF (memoN a8t bl8t 103960 (l5f_0 ++ (l6f_1 ++ (l6f_2 ++ (l6f_3 ++ (l6f_4)))))) b101)) tab tab) ⟨orF_ok m8t s101,tab_ok,tab_ok⟩ ttab_ok 1000),f8t⟩
theorem m9f : SOk prg 101 (memoN a9f bl9f 103983 (l5f_0 ++ (l6f_1 ++ (l6f_2 ++ (l6f_3 ++ (l6f_4)))))) := memoN_ok (n0 := 3640) s101 R0_ok globFlat (by decide +kernel) (by decide +kernel) (chkM_append t9f_0 (chkM_append t9f_1 (chkM_append t9f_2 (chkM_append t9f_3 t9f_4))))
theorem c9f : OKc 9 false := ⟨R9f,(run_ok (T := .n 101 (.fn (orF (memoN a9f bl9f 103983 (l5f_0 ++ (l6f_1 ++ (l6f_2 ++ (l6f_3 ++ (l6f_4)))))) b101)) tab tab) ⟨orF_ok m9f s101,tab_ok,tab_ok⟩ ttab_ok 1000),f9f⟩
theorem m9t : SOk prg 101 (memoN a9t bl9t 104319 (l5f_0 ++ (l6f_1 ++ (l6f_2 ++ (l6f_3 ++ (l6f_4)))))) := memoN_ok (n0 := 3959) s101 R0_ok globFlat (by decide +kernel) (by decide +kernel) (chkM_append t9t_0 (chkM_append t9t_1 (chkM_append t9t_2 (chkM_append t9t_3 t9t_4))))
theorem c9t : OKc 9 true := ⟨R9t,(run_ok (T := .n 101 (.fn (orF (memoN a9t bl9t 104319 (l5f_0 ++ (l6f_1 ++ (l6f_2 ++ (l6f_3 ++ (l6f_4)))))) b101)) tab tab) ⟨orF_ok m9t s101,tab_ok,tab_ok⟩ ttab_ok 1000),f9t⟩
theorem all_f : ∀ k, k < 10 → OKc k false
  | 0, _ => c0f
  | 1, _ => c1f
  | 2, _ => c2f
  | 3, _ => c3f
  | 4, _ => c4f
  | 5, _ => c5f
  | 6, _ => c6f
  | 7, _ => c7f
  | 8, _ => c8f
  | 9, _ => c9f
  | k + 10, h => absurd h (by omega)
theorem all_t : ∀ k, k < 10 → OKc k true
  | 0, _ => c0t
  | 1, _ => c1t
  | 2, _ => c2t
  | 3, _ => c3t
  | 4, _ => c4t
  | 5, _ => c5t
  | 6, _ => c6t
  | 7, _ => c7t
  | 8, _ => c8t
  | 9, _ => c9t
  | k + 10, h => absurd h (by omega)
theorem all : ∀ b k, k < 10 → OKc k b
  | false => all_f
  | true => all_t
end Tb
