import Derived.Test.YtkmpehlhplhnhaaGreatDoorS4
set_option autoImplicit false
set_option maxRecDepth 100000
set_option linter.unusedVariables false
namespace Tb
open Go Hb
noncomputable section
def c0 := fun R f s => eBod R 59 t0 [2,3,4,5,8,31,32] [2,3,4,5,8,9,10] f s
theorem sc0 : COk prg 0 59 c0 := COk.of (Rk := fun R => R) hm (by kernel_rfl) (fun R h => h) rfl
def c1 := fun R f s => eBod R 59 t1 [2,3,4,5,8,9,10] [] f s
theorem sc1 : COk prg 1 59 c1 := COk.of (Rk := fun R => R) hm (by kernel_rfl) (fun R h => h) rfl
def c2 := fun R f s => eBod R 115 t2 [16,106] [16,17] f s
theorem sc2 : COk prg 2 115 c2 := COk.of (Rk := fun R => R) hm (by kernel_rfl) (fun R h => h) rfl
def c3 := fun R f s => eBod R 115 t3 [16,17] [] f s
theorem sc3 : COk prg 3 115 c3 := COk.of (Rk := fun R => R) hm (by kernel_rfl) (fun R h => h) rfl
def c4 := fun R f s => eBod R 22 t4 [4,5,9] [4,5,6] f s
theorem sc4 : COk prg 4 22 c4 := COk.of (Rk := fun R => R) hm (by kernel_rfl) (fun R h => h) rfl
def c5 := fun R f s => eBod R 22 t5 [4,5,6] [] f s
theorem sc5 : COk prg 5 22 c5 := COk.of (Rk := fun R => R) hm (by kernel_rfl) (fun R h => h) rfl
def c6 := fun R f s => eBod R 26 t6 [2,3,4,5,10,11] [2,3,4,5,6,7] f s
theorem sc6 : COk prg 6 26 c6 := COk.of (Rk := fun R => R) hm (by kernel_rfl) (fun R h => h) rfl
def c7 := fun R f s => eBod R 26 t7 [2,3,4,5,6,7] [] f s
theorem sc7 : COk prg 7 26 c7 := COk.of (Rk := fun R => R) hm (by kernel_rfl) (fun R h => h) rfl
def c8 := fun R f s => eBod R 13 t8 [2,7] [2,5] f s
theorem sc8 : COk prg 8 13 c8 := COk.of (Rk := fun R => R) hm (by kernel_rfl) (fun R h => h) rfl
def c9 := fun R f s => eBod R 13 t9 [2,5] [] f s
theorem sc9 : COk prg 9 13 c9 := COk.of (Rk := fun R => R) hm (by kernel_rfl) (fun R h => h) rfl
def c10 := fun R f s => eBod R 17 t10 [2,3,7] [2,3,4] f s
theorem sc10 : COk prg 10 17 c10 := COk.of (Rk := fun R => R) hm (by kernel_rfl) (fun R h => h) rfl
def c11 := fun R f s => eBod R 17 t11 [2,3,4] [] f s
theorem sc11 : COk prg 11 17 c11 := COk.of (Rk := fun R => R) hm (by kernel_rfl) (fun R h => h) rfl
def c12 := fun R f s => eBod R 13 t12 [2,7] [2,5] f s
theorem sc12 : COk prg 12 13 c12 := COk.of (Rk := fun R => R) hm (by kernel_rfl) (fun R h => h) rfl
def c13 := fun R f s => eBod R 13 t13 [2,5] [] f s
theorem sc13 : COk prg 13 13 c13 := COk.of (Rk := fun R => R) hm (by kernel_rfl) (fun R h => h) rfl
def c14 := fun R f s => eBod R 13 t14 [2,7] [2,5] f s
theorem sc14 : COk prg 14 13 c14 := COk.of (Rk := fun R => R) hm (by kernel_rfl) (fun R h => h) rfl
def c15 := fun R f s => eBod R 13 t15 [2,5] [] f s
theorem sc15 : COk prg 15 13 c15 := COk.of (Rk := fun R => R) hm (by kernel_rfl) (fun R h => h) rfl
def c16 := fun R f s => eBod R 34 t16 [3,4,7,16] [3,4,7,8] f s
theorem sc16 : COk prg 16 34 c16 := COk.of (Rk := fun R => R) hm (by kernel_rfl) (fun R h => h) rfl
def c17 := fun R f s => eBod R 34 t17 [3,4,7,8] [] f s
theorem sc17 : COk prg 17 34 c17 := COk.of (Rk := fun R => R) hm (by kernel_rfl) (fun R h => h) rfl
def c18 := fun R f s => eBod R 16 t18 [5,11] [5,6] f s
theorem sc18 : COk prg 18 16 c18 := COk.of (Rk := fun R => R) hm (by kernel_rfl) (fun R h => h) rfl
def c19 := fun R f s => eBod R 16 t19 [5,6] [] f s
theorem sc19 : COk prg 19 16 c19 := COk.of (Rk := fun R => R) hm (by kernel_rfl) (fun R h => h) rfl
def c20 := fun R f s => eBod R 10 t20 [2,6] [2,3] f s
theorem sc20 : COk prg 20 10 c20 := COk.of (Rk := fun R => R) hm (by kernel_rfl) (fun R h => h) rfl
def c21 := fun R f s => eBod R 10 t21 [2,3] [] f s
theorem sc21 : COk prg 21 10 c21 := COk.of (Rk := fun R => R) hm (by kernel_rfl) (fun R h => h) rfl
end
end Tb
