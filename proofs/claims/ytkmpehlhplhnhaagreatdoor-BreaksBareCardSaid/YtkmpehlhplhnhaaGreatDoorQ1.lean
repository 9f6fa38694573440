import Derived.Test.YtkmpehlhplhnhaaGreatDoorQ0
set_option autoImplicit false
set_option maxRecDepth 100000
set_option linter.unusedVariables false
namespace Tb
open Go Hb
noncomputable def Rt : Rec := run tab ttab 60
theorem hRt : RecOk prg Rt := run_ok tab_ok ttab_ok 60
def L_known : List (List AV × AV) := [([],.b true)]
theorem v_known : chkC (dp 45 x4 r4 []) Rt L_known = true := by kernel_rfl
theorem o_known : SOk prg 4 (constOv L_known) := constOv_ok hG s4 hRt v_known
def L_book : List (List AV × AV) := [([.s []],.tup [.agg [.ns,.ns],.b true]),([.s [55,58,32,62,60]],.tup [.agg [.sl 12 1 [.i .i64 7,.b false,.i .i64 3,.i .i64 0,.ns,.s [],.ns,.i .i64 3,.i .i64 0,.ns,.s [],.ns],.ns],.b true])]
theorem v_book : chkC (dp 26 x5 r5 [0]) Rt L_book = true := by kernel_rfl
theorem o_book : SOk prg 5 (constOv L_book) := constOv_ok hG s5 hRt v_book
def L_is : List (List AV × AV) := [([.agg [.i .i64 3,.i .i64 0,.ns,.s [],.ns]],.b true)]
theorem v_is : chkC (dp 11 x117 r117 [0]) Rt L_is = true := by kernel_rfl
theorem o_is : SOk prg 117 (constOv L_is) := constOv_ok hG s117 hRt v_is
def L_mi : List (List AV × AV) := [([.agg [.ns,.ns]],.b true),([.agg [.sl 12 1 [.i .i64 7,.b false,.i .i64 3,.i .i64 0,.ns,.s [],.ns,.i .i64 3,.i .i64 0,.ns,.s [],.ns],.ns]],.b true)]
theorem v_mi : chkC (dp 23 x16 r16 [0]) Rt L_mi = true := by kernel_rfl
theorem o_mi : SOk prg 16 (constOv L_mi) := constOv_ok hG s16 hRt v_mi
end Tb
