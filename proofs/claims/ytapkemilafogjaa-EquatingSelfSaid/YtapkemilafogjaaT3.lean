/- What the functions compute, between two cut points: printed by a program, checked by the kernel. -/
import Derived.Test.YtapkemilafogjaaAnn
namespace Go.Proofs.Ytapkemilafogjaa
open Go.Ab
set_option maxRecDepth 100000
set_option linter.unusedVariables false

noncomputable def k_conversion_normal_1009 (a0 : List GPoint) (r0 : (List GPoint) × Int) (r5 : GRatio × GconversionSteps) (r8 : GRatio × GconversionSteps) : Option (AV × Mem) := pt R_conversion_normal 1009 ⟨[(0, .sl 4 (List.map dGPoint.enc a0)), (2, .loc 2 1 0 0), (4, .sl 4 (List.map dGPoint.enc r0.fst)), (6, .loc 6 1 0 0), (7, .loc 7 2 0 0), (8, .loc 8 2 0 0)], [(2, ⟨1, ty_api_Curve, [[.v (.slice none 0 0)]], true⟩), (6, ⟨1, ty_conversion_steps, [dGconversionSteps.enc r8.snd], true⟩), (7, ⟨2, ty_api_Ratio, [dGRatio.enc r5.fst], true⟩), (8, ⟨2, ty_api_Ratio, [dGRatio.enc r8.fst], true⟩)]⟩

noncomputable def k_conversion_normal_1009v1 (a0 : List GPoint) (r0 : (List GPoint) × Int) (r1 : GRatio) (r2 : GRatio) : Option (AV × Mem) := pt R_conversion_normal 1009 ⟨[(0, .sl 4 (List.map dGPoint.enc a0)), (2, .loc 2 1 0 0), (4, .sl 4 (List.map dGPoint.enc r0.fst)), (6, .loc 6 1 0 0), (7, .loc 7 2 0 0), (8, .loc 8 2 0 0), (24, B false)], [(2, ⟨1, ty_api_Curve, [[.v (.slice none 0 0)]], true⟩), (6, ⟨1, ty_conversion_steps, [dGconversionSteps.enc ⟨0⟩], true⟩), (7, ⟨2, ty_api_Ratio, [dGRatio.enc r1], true⟩), (8, ⟨2, ty_api_Ratio, [dGRatio.enc r2], true⟩)]⟩

theorem t_conversion_normal_1009 (a0 : List GPoint) (r0 : (List GPoint) × Int) (r5 : GRatio × GconversionSteps) (r8 : GRatio × GconversionSteps) {y : AV × Mem} (h : (
  brn (r8.snd.e != 0) (some (.tup [.agg (dGCurve.enc ⟨[]⟩), I r8.snd.e], []))
  (callD r_conversion_pointAt (cw f_conversion_pointAt [.sl 4 (List.map dGPoint.enc a0), .agg (dGRatio.enc r5.fst)] []) fun (r9 : GPoint × Int) =>
   brn (r9.snd != 0) (some (.tup [.agg (dGCurve.enc ⟨[]⟩), I r9.snd], []))
   (callD r_conversion_pointAt (cw f_conversion_pointAt [.sl 4 (List.map dGPoint.enc a0), .agg (dGRatio.enc r8.fst)] []) fun (r10 : GPoint × Int) =>
    brn (r10.snd != 0) (some (.tup [.agg (dGCurve.enc ⟨[]⟩), I r10.snd], []))
    (brn (decide (410 < w64 ((↑(List.map dGPoint.enc r0.fst).length : Int) + 2))) (some (.tup [.agg (dGCurve.enc ⟨[]⟩), I 3], []))
     (chk (1 = 1) <|
      chk ((1 + (List.map dGPoint.enc r0.fst).length) * (32 + 1) ≤ 1099511627776) <|
      chk (([[AV.v (Go.Value.int IntKind.i64 r9.fst.X.Num), AV.v (Go.Value.int IntKind.i64 r9.fst.X.Den), AV.v (Go.Value.int IntKind.i64 r9.fst.Y.Num), AV.v (Go.Value.int IntKind.i64 r9.fst.Y.Den)]] ++ List.map dGPoint.enc r0.fst).length = ([[AV.v (Go.Value.int IntKind.i64 r9.fst.X.Num), AV.v (Go.Value.int IntKind.i64 r9.fst.X.Den), AV.v (Go.Value.int IntKind.i64 r9.fst.Y.Num), AV.v (Go.Value.int IntKind.i64 r9.fst.Y.Den)]] ++ List.map dGPoint.enc r0.fst).length) <|
      chk ((([[AV.v (Go.Value.int IntKind.i64 r9.fst.X.Num), AV.v (Go.Value.int IntKind.i64 r9.fst.X.Den), AV.v (Go.Value.int IntKind.i64 r9.fst.Y.Num), AV.v (Go.Value.int IntKind.i64 r9.fst.Y.Den)]] ++ List.map dGPoint.enc r0.fst).length + 1) * (32 + 1) ≤ 1099511627776) <|
      chk (0 + ([[AV.v (Go.Value.int IntKind.i64 r9.fst.X.Num), AV.v (Go.Value.int IntKind.i64 r9.fst.X.Den), AV.v (Go.Value.int IntKind.i64 r9.fst.Y.Num), AV.v (Go.Value.int IntKind.i64 r9.fst.Y.Den)]] ++ List.map dGPoint.enc r0.fst ++ [[AV.v (Go.Value.int IntKind.i64 r10.fst.X.Num), AV.v (Go.Value.int IntKind.i64 r10.fst.X.Den), AV.v (Go.Value.int IntKind.i64 r10.fst.Y.Num), AV.v (Go.Value.int IntKind.i64 r10.fst.Y.Den)]]).length ≤ ([[AV.v (Go.Value.int IntKind.i64 r9.fst.X.Num), AV.v (Go.Value.int IntKind.i64 r9.fst.X.Den), AV.v (Go.Value.int IntKind.i64 r9.fst.Y.Num), AV.v (Go.Value.int IntKind.i64 r9.fst.Y.Den)]] ++ List.map dGPoint.enc r0.fst ++ [[AV.v (Go.Value.int IntKind.i64 r10.fst.X.Num), AV.v (Go.Value.int IntKind.i64 r10.fst.X.Den), AV.v (Go.Value.int IntKind.i64 r10.fst.Y.Num), AV.v (Go.Value.int IntKind.i64 r10.fst.Y.Den)]]).length) <|
      some (.tup [.agg [.sl 4 (List.take (([[AV.v (Go.Value.int IntKind.i64 r9.fst.X.Num), AV.v (Go.Value.int IntKind.i64 r9.fst.X.Den), AV.v (Go.Value.int IntKind.i64 r9.fst.Y.Num), AV.v (Go.Value.int IntKind.i64 r9.fst.Y.Den)]] ++ List.map dGPoint.enc r0.fst ++ [[AV.v (Go.Value.int IntKind.i64 r10.fst.X.Num), AV.v (Go.Value.int IntKind.i64 r10.fst.X.Den), AV.v (Go.Value.int IntKind.i64 r10.fst.Y.Num), AV.v (Go.Value.int IntKind.i64 r10.fst.Y.Den)]]).length) ((([[I r9.fst.X.Num, I r9.fst.X.Den, I r9.fst.Y.Num, I r9.fst.Y.Den]]) ++ (List.map dGPoint.enc r0.fst)) ++ ([[I r10.fst.X.Num, I r10.fst.X.Den, I r10.fst.Y.Num, I r10.fst.Y.Den]])))], I 0], [])))))) = some y) : k_conversion_normal_1009 a0 r0 r5 r8 = some y :=
  pt_of zT [9] (by kernel_rfl) h

theorem t_conversion_normal_1009v1 (a0 : List GPoint) (r0 : (List GPoint) × Int) (r1 : GRatio) (r2 : GRatio) {y : AV × Mem} (h : (
  callD r_conversion_pointAt (cw f_conversion_pointAt [.sl 4 (List.map dGPoint.enc a0), .agg (dGRatio.enc r1)] []) fun (r11 : GPoint × Int) =>
  brn (r11.snd != 0) (some (.tup [.agg (dGCurve.enc ⟨[]⟩), I r11.snd], []))
  (callD r_conversion_pointAt (cw f_conversion_pointAt [.sl 4 (List.map dGPoint.enc a0), .agg (dGRatio.enc r2)] []) fun (r12 : GPoint × Int) =>
   brn (r12.snd != 0) (some (.tup [.agg (dGCurve.enc ⟨[]⟩), I r12.snd], []))
   (brn (decide (410 < w64 ((↑(List.map dGPoint.enc r0.fst).length : Int) + 2))) (some (.tup [.agg (dGCurve.enc ⟨[]⟩), I 3], []))
    (chk (1 = 1) <|
     chk ((1 + (List.map dGPoint.enc r0.fst).length) * (32 + 1) ≤ 1099511627776) <|
     chk (([[AV.v (Go.Value.int IntKind.i64 r11.fst.X.Num), AV.v (Go.Value.int IntKind.i64 r11.fst.X.Den), AV.v (Go.Value.int IntKind.i64 r11.fst.Y.Num), AV.v (Go.Value.int IntKind.i64 r11.fst.Y.Den)]] ++ List.map dGPoint.enc r0.fst).length = ([[AV.v (Go.Value.int IntKind.i64 r11.fst.X.Num), AV.v (Go.Value.int IntKind.i64 r11.fst.X.Den), AV.v (Go.Value.int IntKind.i64 r11.fst.Y.Num), AV.v (Go.Value.int IntKind.i64 r11.fst.Y.Den)]] ++ List.map dGPoint.enc r0.fst).length) <|
     chk ((([[AV.v (Go.Value.int IntKind.i64 r11.fst.X.Num), AV.v (Go.Value.int IntKind.i64 r11.fst.X.Den), AV.v (Go.Value.int IntKind.i64 r11.fst.Y.Num), AV.v (Go.Value.int IntKind.i64 r11.fst.Y.Den)]] ++ List.map dGPoint.enc r0.fst).length + 1) * (32 + 1) ≤ 1099511627776) <|
     chk (0 + ([[AV.v (Go.Value.int IntKind.i64 r11.fst.X.Num), AV.v (Go.Value.int IntKind.i64 r11.fst.X.Den), AV.v (Go.Value.int IntKind.i64 r11.fst.Y.Num), AV.v (Go.Value.int IntKind.i64 r11.fst.Y.Den)]] ++ List.map dGPoint.enc r0.fst ++ [[AV.v (Go.Value.int IntKind.i64 r12.fst.X.Num), AV.v (Go.Value.int IntKind.i64 r12.fst.X.Den), AV.v (Go.Value.int IntKind.i64 r12.fst.Y.Num), AV.v (Go.Value.int IntKind.i64 r12.fst.Y.Den)]]).length ≤ ([[AV.v (Go.Value.int IntKind.i64 r11.fst.X.Num), AV.v (Go.Value.int IntKind.i64 r11.fst.X.Den), AV.v (Go.Value.int IntKind.i64 r11.fst.Y.Num), AV.v (Go.Value.int IntKind.i64 r11.fst.Y.Den)]] ++ List.map dGPoint.enc r0.fst ++ [[AV.v (Go.Value.int IntKind.i64 r12.fst.X.Num), AV.v (Go.Value.int IntKind.i64 r12.fst.X.Den), AV.v (Go.Value.int IntKind.i64 r12.fst.Y.Num), AV.v (Go.Value.int IntKind.i64 r12.fst.Y.Den)]]).length) <|
     some (.tup [.agg [.sl 4 (List.take (([[AV.v (Go.Value.int IntKind.i64 r11.fst.X.Num), AV.v (Go.Value.int IntKind.i64 r11.fst.X.Den), AV.v (Go.Value.int IntKind.i64 r11.fst.Y.Num), AV.v (Go.Value.int IntKind.i64 r11.fst.Y.Den)]] ++ List.map dGPoint.enc r0.fst ++ [[AV.v (Go.Value.int IntKind.i64 r12.fst.X.Num), AV.v (Go.Value.int IntKind.i64 r12.fst.X.Den), AV.v (Go.Value.int IntKind.i64 r12.fst.Y.Num), AV.v (Go.Value.int IntKind.i64 r12.fst.Y.Den)]]).length) ((([[I r11.fst.X.Num, I r11.fst.X.Den, I r11.fst.Y.Num, I r11.fst.Y.Den]]) ++ (List.map dGPoint.enc r0.fst)) ++ ([[I r12.fst.X.Num, I r12.fst.X.Den, I r12.fst.Y.Num, I r12.fst.Y.Den]])))], I 0], []))))) = some y) : k_conversion_normal_1009v1 a0 r0 r1 r2 = some y :=
  pt_of zT [9] (by kernel_rfl) h

theorem e_conversion_normal (a0 : List GPoint) {y : AV × Mem} (h : (
  callD r_conversion_bends (cw f_conversion_bends [.sl 4 (List.map dGPoint.enc a0)] []) fun (r0 : (List GPoint) × Int) =>
  brn (r0.snd != 0) (some (.tup [.agg (dGCurve.enc ⟨[]⟩), I r0.snd], []))
  (callD r_conversion_whole (cw f_conversion_whole [I 0] []) fun (r1 : GRatio) =>
   callD r_conversion_whole (cw f_conversion_whole [I 1] []) fun (r2 : GRatio) =>
   brn (decide (0 < (↑(List.map dGPoint.enc r0.fst).length : Int))) (chk ((0 : Int) ≤ 0) <|
    elemD dGPoint (List.map dGPoint.enc r0.fst) (Int.toNat 0) fun (c3 : GPoint) =>
    callD r_conversion_whole (cw f_conversion_whole [I 1] []) fun (r4 : GRatio) =>
    callD r_conversion_steps_do (cw f_conversion_steps_do [.loc 1000 1 0 0, .fn f_ratio_Sub [], .agg (dGRatio.enc c3.X), .agg (dGRatio.enc r4)] [(1000, ⟨1, ty_conversion_steps, [dGconversionSteps.enc ⟨0⟩], true⟩)]) fun (r5 : GRatio × GconversionSteps) =>
    chk ((0 : Int) ≤ (w64 ((↑(List.map dGPoint.enc r0.fst).length : Int) - 1))) <|
    elemD dGPoint (List.map dGPoint.enc r0.fst) ((w64 ((↑(List.map dGPoint.enc r0.fst).length : Int) - 1)).toNat) fun (c6 : GPoint) =>
    callD r_conversion_whole (cw f_conversion_whole [I 1] []) fun (r7 : GRatio) =>
    callD r_conversion_steps_do (cw f_conversion_steps_do [.loc 1000 1 0 0, .fn f_ratio_Add [], .agg (dGRatio.enc c6.X), .agg (dGRatio.enc r7)] [(1000, ⟨1, ty_conversion_steps, [dGconversionSteps.enc r5.snd], true⟩)]) fun (r8 : GRatio × GconversionSteps) =>
    k_conversion_normal_1009 a0 r0 r5 r8)
   (k_conversion_normal_1009v1 a0 r0 r1 r2))) = some y) : cw f_conversion_normal [.sl 4 (List.map dGPoint.enc a0)] [] = some y :=
  callw_tree R_conversion_normal zT [9] (by kernel_rfl) (by kernel_rfl) (by kernel_rfl) (by kernel_rfl) (by kernel_rfl) h

noncomputable def k_slices_Index_int_int_1 (a0 : List Int) (a1 : Int) (x0 : Int) : Option (AV × Mem) := pt R_slices_Index_int_int 1 ⟨[(0, .sl 1 (List.map dI_i64.enc a0)), (1, I a1), (7, I ((↑(List.map dI_i64.enc a0).length : Int))), (8, I x0)], []⟩

theorem t_slices_Index_int_int_1 (a0 : List Int) (a1 : Int) (x0 : Int) {y : AV × Mem} (h : (
  brn (decide (x0 < (↑(List.map dI_i64.enc a0).length : Int))) (chk ((0 : Int) ≤ x0) <|
   elemD dI_i64 (List.map dI_i64.enc a0) x0.toNat fun (c1 : Int) =>
   brn (a1 == c1) (some (I x0, []))
   (k_slices_Index_int_int_1 a0 a1 (w64 (x0 + 1))))
  (some (I (-1), []))) = some y) : k_slices_Index_int_int_1 a0 a1 x0 = some y :=
  pt_of zT [] (by kernel_rfl) h

theorem e_slices_Index_int_int (a0 : List Int) (a1 : Int) {y : AV × Mem} (h : (
  k_slices_Index_int_int_1 a0 a1 0) = some y) : cw f_slices_Index_int_int [.sl 1 (List.map dI_i64.enc a0), I a1] [] = some y :=
  callw_tree R_slices_Index_int_int zT [] (by kernel_rfl) (by kernel_rfl) (by kernel_rfl) (by kernel_rfl) (by kernel_rfl) h

theorem e_ratio_New (a0 : Int) (a1 : Int) {y : AV × Mem} (h : (
  brn (a1 == 0) (some (.tup [.agg (dGRatio.enc (⟨0, 0⟩)), I 2], []))
  (callD r_ratio_magnitude (cw f_ratio_magnitude [I a0] []) fun (r0 : Int) =>
   callD r_ratio_magnitude (cw f_ratio_magnitude [I a1] []) fun (r1 : Int) =>
   callD r_ratio_reduced (cw f_ratio_reduced [.agg (dGratioSigned.enc (⟨!decide (a0 < 0) == decide (a1 < 0), ⟨0, r0⟩⟩)), .v (.int .u64 r1)] []) fun (r2 : GRatio × Int) =>
   some (.tup [.agg (dGRatio.enc r2.fst), I r2.snd], []))) = some y) : cw f_ratio_New [I a0, I a1] [] = some y :=
  callw_tree R_ratio_New zT [] (by kernel_rfl) (by kernel_rfl) (by kernel_rfl) (by kernel_rfl) (by kernel_rfl) h

noncomputable def k_conversion_ascending_1 (a0 : List GPoint) (x0 : Int) : Option (AV × Mem) := pt R_conversion_ascending 1 ⟨[(0, .sl 4 (List.map dGPoint.enc a0)), (5, .sl 4 (List.map dGPoint.enc a0)), (6, I ((↑(List.map dGPoint.enc a0).length : Int))), (7, I x0)], []⟩

theorem t_conversion_ascending_1 (a0 : List GPoint) (x0 : Int) {y : AV × Mem} (h : (
  brn (decide (x0 < (↑(List.map dGPoint.enc a0).length : Int))) (chk ((0 : Int) ≤ x0) <|
   elemD dGPoint (List.map dGPoint.enc a0) x0.toNat fun (c1 : GPoint) =>
   callD r_ratio_Valid (cw f_ratio_Valid [.agg (dGRatio.enc c1.X)] []) fun (r2 : Bool) =>
   brn (!r2) (some (B false, []))
   (callD r_ratio_Valid (cw f_ratio_Valid [.agg (dGRatio.enc c1.Y)] []) fun (r3 : Bool) =>
    brn (!r3) (some (B false, []))
    (brn (decide (0 < x0)) (chk ((0 : Int) ≤ (w64 (x0 - 1))) <|
      elemD dGPoint (List.map dGPoint.enc a0) ((w64 (x0 - 1)).toNat) fun (c4 : GPoint) =>
      callD r_ratio_Less (cw f_ratio_Less [.agg (dGRatio.enc c4.X), .agg (dGRatio.enc c1.X)] []) fun (r5 : Bool) =>
      brn (!r5) (some (B false, []))
      (chk ((0 : Int) ≤ (w64 (x0 - 1))) <|
       elemD dGPoint (List.map dGPoint.enc a0) ((w64 (x0 - 1)).toNat) fun (c6 : GPoint) =>
       callD r_ratio_Less (cw f_ratio_Less [.agg (dGRatio.enc c6.Y), .agg (dGRatio.enc c1.Y)] []) fun (r7 : Bool) =>
       brn (!r7) (some (B false, []))
       (k_conversion_ascending_1 a0 (w64 (x0 + 1)))))
     (k_conversion_ascending_1 a0 (w64 (x0 + 1))))))
  (some (B true, []))) = some y) : k_conversion_ascending_1 a0 x0 = some y :=
  pt_of zT [] (by kernel_rfl) h

theorem e_conversion_ascending (a0 : List GPoint) {y : AV × Mem} (h : (
  k_conversion_ascending_1 a0 0) = some y) : cw f_conversion_ascending [.sl 4 (List.map dGPoint.enc a0)] [] = some y :=
  callw_tree R_conversion_ascending zT [] (by kernel_rfl) (by kernel_rfl) (by kernel_rfl) (by kernel_rfl) (by kernel_rfl) h

noncomputable def k_sort_Search_eval_1 (ax : GRatio) (al : List GPoint) (x0 : Int) (x1 : Int) : Option (AV × Mem) := pt R_sort_Search 1 ⟨[(1, .fn f_conversion_eval_1 [.fp [I ax.Num, I ax.Den], .fp [.sl 4 (List.map dGPoint.enc al)]]), (5, I x0), (6, I x1)], []⟩

theorem t_sort_Search_eval_1 (ax : GRatio) (al : List GPoint) (x0 : Int) (x1 : Int) {y : AV × Mem} (h : (
  brn (decide (x0 < x1)) (chk ((0 : Int) ≤ 1) <|
   callD r_conversion_eval_1 (cw f_conversion_eval_1 [I (w64 ((wu64 (w64 (x0 + x1))).fdiv (2 ^ Min.min (Int.toNat 1) 64))), .fp [I ax.Num, I ax.Den], .fp [.sl 4 (List.map dGPoint.enc al)]] []) fun (r2 : Bool) =>
   brn (!r2) (k_sort_Search_eval_1 ax al (w64 (w64 ((wu64 (w64 (x0 + x1))).fdiv (2 ^ Min.min (Int.toNat 1) 64)) + 1)) x1)
   (k_sort_Search_eval_1 ax al x0 (w64 ((wu64 (w64 (x0 + x1))).fdiv (2 ^ Min.min (Int.toNat 1) 64)))))
  (some (I x0, []))) = some y) : k_sort_Search_eval_1 ax al x0 x1 = some y :=
  pt_of zT [] (by kernel_rfl) h

theorem e_sort_Search_eval (a0 : Int) (ax : GRatio) (al : List GPoint) {y : AV × Mem} (h : (
  k_sort_Search_eval_1 ax al 0 a0) = some y) : cw f_sort_Search [I a0, .fn f_conversion_eval_1 [.fp [I ax.Num, I ax.Den], .fp [.sl 4 (List.map dGPoint.enc al)]]] [] = some y :=
  callw_tree R_sort_Search zT [] (by kernel_rfl) (by kernel_rfl) (by kernel_rfl) (by kernel_rfl) (by kernel_rfl) h

theorem e_conversion_eval_1 (a0 : Int) (ax : GRatio) (al : List GPoint) {y : AV × Mem} (h : (
  chk ((0 : Int) ≤ (w64 (a0 + 1))) <|
  elemD dGPoint (List.map dGPoint.enc al) ((w64 (a0 + 1)).toNat) fun (c0 : GPoint) =>
  callD r_ratio_Compare (cw f_ratio_Compare [.agg (dGRatio.enc ax), .agg (dGRatio.enc c0.X)] []) fun (r1 : Int) =>
  some (B (decide (r1 ≤ 0)), [])) = some y) : cw f_conversion_eval_1 [I a0, .fp [I ax.Num, I ax.Den], .fp [.sl 4 (List.map dGPoint.enc al)]] [] = some y :=
  callw_tree R_conversion_eval_1 zT [] (by kernel_rfl) (by kernel_rfl) (by kernel_rfl) (by kernel_rfl) (by kernel_rfl) h

theorem e_conversion_steps_slope (a0 : GconversionSteps) (a1 : GPoint) (a2 : GPoint) {y : AV × Mem} (h : (
  callD r_conversion_steps_do (cw f_conversion_steps_do [.loc 1000 1 0 0, .fn f_ratio_Sub [], .agg (dGRatio.enc a2.Y), .agg (dGRatio.enc a1.Y)] [(1000, ⟨1, ty_conversion_steps, [dGconversionSteps.enc a0], true⟩)]) fun (r0 : GRatio × GconversionSteps) =>
  callD r_conversion_steps_do (cw f_conversion_steps_do [.loc 1000 1 0 0, .fn f_ratio_Sub [], .agg (dGRatio.enc a2.X), .agg (dGRatio.enc a1.X)] [(1000, ⟨1, ty_conversion_steps, [dGconversionSteps.enc r0.snd], true⟩)]) fun (r1 : GRatio × GconversionSteps) =>
  callD r_conversion_steps_do (cw f_conversion_steps_do [.loc 1000 1 0 0, .fn f_ratio_Div [], .agg (dGRatio.enc r0.fst), .agg (dGRatio.enc r1.fst)] [(1000, ⟨1, ty_conversion_steps, [dGconversionSteps.enc r1.snd], true⟩)]) fun (r2 : GRatio × GconversionSteps) =>
  some (.agg (dGRatio.enc r2.fst), [(1000, ⟨1, ty_conversion_steps, [dGconversionSteps.enc r2.snd], true⟩)])) = some y) : cw f_conversion_steps_slope [.loc 1000 1 0 0, .agg (dGPoint.enc a1), .agg (dGPoint.enc a2)] [(1000, ⟨1, ty_conversion_steps, [dGconversionSteps.enc a0], true⟩)] = some y :=
  callw_tree R_conversion_steps_slope zT [] (by kernel_rfl) (by kernel_rfl) (by kernel_rfl) (by kernel_rfl) (by kernel_rfl) h

theorem e_conversion_steps_do_Add (a0 : GconversionSteps) (a2 : GRatio) (a3 : GRatio) {y : AV × Mem} (h : (
  brn (a0.e != 0) (some (.agg (dGRatio.enc (⟨0, 0⟩)), [(1000, ⟨1, ty_conversion_steps, [dGconversionSteps.enc a0], true⟩)]))
  (callD r_ratio_Add (cw f_ratio_Add [.agg (dGRatio.enc a2), .agg (dGRatio.enc a3)] []) fun (r0 : GRatio × Int) =>
   some (.agg (dGRatio.enc r0.fst), [(1000, ⟨1, ty_conversion_steps, [dGconversionSteps.enc ⟨r0.snd⟩], true⟩)]))) = some y) : cw f_conversion_steps_do [.loc 1000 1 0 0, .fn f_ratio_Add [], .agg (dGRatio.enc a2), .agg (dGRatio.enc a3)] [(1000, ⟨1, ty_conversion_steps, [dGconversionSteps.enc a0], true⟩)] = some y :=
  callw_tree R_conversion_steps_do zT [] (by kernel_rfl) (by kernel_rfl) (by kernel_rfl) (by kernel_rfl) (by kernel_rfl) h

theorem e_conversion_steps_do_Sub (a0 : GconversionSteps) (a2 : GRatio) (a3 : GRatio) {y : AV × Mem} (h : (
  brn (a0.e != 0) (some (.agg (dGRatio.enc (⟨0, 0⟩)), [(1000, ⟨1, ty_conversion_steps, [dGconversionSteps.enc a0], true⟩)]))
  (callD r_ratio_Sub (cw f_ratio_Sub [.agg (dGRatio.enc a2), .agg (dGRatio.enc a3)] []) fun (r0 : GRatio × Int) =>
   some (.agg (dGRatio.enc r0.fst), [(1000, ⟨1, ty_conversion_steps, [dGconversionSteps.enc ⟨r0.snd⟩], true⟩)]))) = some y) : cw f_conversion_steps_do [.loc 1000 1 0 0, .fn f_ratio_Sub [], .agg (dGRatio.enc a2), .agg (dGRatio.enc a3)] [(1000, ⟨1, ty_conversion_steps, [dGconversionSteps.enc a0], true⟩)] = some y :=
  callw_tree R_conversion_steps_do zT [] (by kernel_rfl) (by kernel_rfl) (by kernel_rfl) (by kernel_rfl) (by kernel_rfl) h

theorem e_conversion_steps_do_Mul (a0 : GconversionSteps) (a2 : GRatio) (a3 : GRatio) {y : AV × Mem} (h : (
  brn (a0.e != 0) (some (.agg (dGRatio.enc (⟨0, 0⟩)), [(1000, ⟨1, ty_conversion_steps, [dGconversionSteps.enc a0], true⟩)]))
  (callD r_ratio_Mul (cw f_ratio_Mul [.agg (dGRatio.enc a2), .agg (dGRatio.enc a3)] []) fun (r0 : GRatio × Int) =>
   some (.agg (dGRatio.enc r0.fst), [(1000, ⟨1, ty_conversion_steps, [dGconversionSteps.enc ⟨r0.snd⟩], true⟩)]))) = some y) : cw f_conversion_steps_do [.loc 1000 1 0 0, .fn f_ratio_Mul [], .agg (dGRatio.enc a2), .agg (dGRatio.enc a3)] [(1000, ⟨1, ty_conversion_steps, [dGconversionSteps.enc a0], true⟩)] = some y :=
  callw_tree R_conversion_steps_do zT [] (by kernel_rfl) (by kernel_rfl) (by kernel_rfl) (by kernel_rfl) (by kernel_rfl) h

theorem e_conversion_steps_do_Div (a0 : GconversionSteps) (a2 : GRatio) (a3 : GRatio) {y : AV × Mem} (h : (
  brn (a0.e != 0) (some (.agg (dGRatio.enc (⟨0, 0⟩)), [(1000, ⟨1, ty_conversion_steps, [dGconversionSteps.enc a0], true⟩)]))
  (callD r_ratio_Div (cw f_ratio_Div [.agg (dGRatio.enc a2), .agg (dGRatio.enc a3)] []) fun (r0 : GRatio × Int) =>
   some (.agg (dGRatio.enc r0.fst), [(1000, ⟨1, ty_conversion_steps, [dGconversionSteps.enc ⟨r0.snd⟩], true⟩)]))) = some y) : cw f_conversion_steps_do [.loc 1000 1 0 0, .fn f_ratio_Div [], .agg (dGRatio.enc a2), .agg (dGRatio.enc a3)] [(1000, ⟨1, ty_conversion_steps, [dGconversionSteps.enc a0], true⟩)] = some y :=
  callw_tree R_conversion_steps_do zT [] (by kernel_rfl) (by kernel_rfl) (by kernel_rfl) (by kernel_rfl) (by kernel_rfl) h

theorem e_ratio_Mul (a0 : GRatio) (a1 : GRatio) {y : AV × Mem} (h : (
  callD r_ratio_Valid (cw f_ratio_Valid [.agg (dGRatio.enc a0)] []) fun (r0 : Bool) =>
  brn (!r0) (some (.tup [.agg (dGRatio.enc (⟨0, 0⟩)), I 1], []))
  (callD r_ratio_Valid (cw f_ratio_Valid [.agg (dGRatio.enc a1)] []) fun (r1 : Bool) =>
   brn (!r1) (some (.tup [.agg (dGRatio.enc (⟨0, 0⟩)), I 1], []))
   (callD r_ratio_magnitude (cw f_ratio_magnitude [I a0.Num] []) fun (r2 : Int) =>
    callD r_ratio_magnitude (cw f_ratio_magnitude [I a1.Num] []) fun (r3 : Int) =>
    callD r_ratio_gcd (cw f_ratio_gcd [.v (.int .u64 r2), .v (.int .u64 (wu64 a1.Den))] []) fun (r4 : Int) =>
    callD r_ratio_gcd (cw f_ratio_gcd [.v (.int .u64 r3), .v (.int .u64 (wu64 a0.Den))] []) fun (r5 : Int) =>
    chk ((r4 : Int) ≠ 0) <|
    chk ((r5 : Int) ≠ 0) <|
    callD r_ratio_product (cw f_ratio_product [.v (.int .u64 (wu64 (r2.tdiv r4))), .v (.int .u64 (wu64 (r3.tdiv r5)))] []) fun (r6 : GratioWide) =>
    chk ((r5 : Int) ≠ 0) <|
    chk ((r4 : Int) ≠ 0) <|
    callD r_ratio_product (cw f_ratio_product [.v (.int .u64 (wu64 ((wu64 a0.Den).tdiv r5))), .v (.int .u64 (wu64 ((wu64 a1.Den).tdiv r4)))] []) fun (r7 : GratioWide) =>
    callD r_ratio_fitted (cw f_ratio_fitted [B (!decide (a0.Num < 0) == decide (a1.Num < 0)), .agg (dGratioWide.enc r6), .agg (dGratioWide.enc r7)] []) fun (r8 : GRatio × Int) =>
    some (.tup [.agg (dGRatio.enc r8.fst), I r8.snd], [])))) = some y) : cw f_ratio_Mul [.agg (dGRatio.enc a0), .agg (dGRatio.enc a1)] [] = some y :=
  callw_tree R_ratio_Mul zT [] (by kernel_rfl) (by kernel_rfl) (by kernel_rfl) (by kernel_rfl) (by kernel_rfl) h

theorem e_ratio_Sub (a0 : GRatio) (a1 : GRatio) {y : AV × Mem} (h : (
  callD r_ratio_Valid (cw f_ratio_Valid [.agg (dGRatio.enc a0)] []) fun (r0 : Bool) =>
  brn (!r0) (some (.tup [.agg (dGRatio.enc (⟨0, 0⟩)), I 1], []))
  (callD r_ratio_Valid (cw f_ratio_Valid [.agg (dGRatio.enc a1)] []) fun (r1 : Bool) =>
   brn (!r1) (some (.tup [.agg (dGRatio.enc (⟨0, 0⟩)), I 1], []))
   (callD r_ratio_Add (cw f_ratio_Add [.agg (dGRatio.enc a0), .agg (dGRatio.enc (⟨w64 (0 - a1.Num), a1.Den⟩))] []) fun (r2 : GRatio × Int) =>
    some (.tup [.agg (dGRatio.enc r2.fst), I r2.snd], [])))) = some y) : cw f_ratio_Sub [.agg (dGRatio.enc a0), .agg (dGRatio.enc a1)] [] = some y :=
  callw_tree R_ratio_Sub zT [] (by kernel_rfl) (by kernel_rfl) (by kernel_rfl) (by kernel_rfl) (by kernel_rfl) h

theorem e_distribution_Count (a0 : GDistribution) {y : AV × Mem} (h : (
  callD r_distribution_Below (cw f_distribution_Below [.agg (dGDistribution.enc a0), I ((↑(List.map dI_i64.enc a0.Counts).length : Int))] []) fun (r0 : Int) =>
  some (I r0, [])) = some y) : cw f_distribution_Count [.agg (dGDistribution.enc a0)] [] = some y :=
  callw_tree R_distribution_Count zT [] (by kernel_rfl) (by kernel_rfl) (by kernel_rfl) (by kernel_rfl) (by kernel_rfl) h

theorem e_distribution_check (a0 : GDistribution) {y : AV × Mem} (h : (
  callD r_distribution_Valid (cw f_distribution_Valid [.agg (dGDistribution.enc a0)] []) fun (r0 : Bool) =>
  brn (!r0) (some (.tup [I 0, I 1], []))
  (callD r_distribution_Count (cw f_distribution_Count [.agg (dGDistribution.enc a0)] []) fun (r1 : Int) =>
   brn (r1 == 0) (some (.tup [I 0, I 10], []))
   (some (.tup [I r1, I 0], [])))) = some y) : cw f_distribution_check [.agg (dGDistribution.enc a0)] [] = some y :=
  callw_tree R_distribution_check zT [] (by kernel_rfl) (by kernel_rfl) (by kernel_rfl) (by kernel_rfl) (by kernel_rfl) h

noncomputable def k_distribution_sumOfScores_1 (a0 : GDistribution) (x0 : Int) (x1 : Int) : Option (AV × Mem) := pt R_distribution_sumOfScores 1 ⟨[(3, I x0), (7, .sl 1 (List.map dI_i64.enc a0.Counts)), (8, I ((↑(List.map dI_i64.enc a0.Counts).length : Int))), (9, I x1)], []⟩

theorem t_distribution_sumOfScores_1 (a0 : GDistribution) (x0 : Int) (x1 : Int) {y : AV × Mem} (h : (
  brn (decide (x1 < (↑(List.map dI_i64.enc a0.Counts).length : Int))) (chk ((0 : Int) ≤ x1) <|
   elemD dI_i64 (List.map dI_i64.enc a0.Counts) x1.toNat fun (c2 : Int) =>
   k_distribution_sumOfScores_1 a0 (w64 (x0 + w64 (x1 * c2))) (w64 (x1 + 1)))
  (some (I x0, []))) = some y) : k_distribution_sumOfScores_1 a0 x0 x1 = some y :=
  pt_of zT [] (by kernel_rfl) h

theorem e_distribution_sumOfScores (a0 : GDistribution) {y : AV × Mem} (h : (
  k_distribution_sumOfScores_1 a0 0 0) = some y) : cw f_distribution_sumOfScores [.agg (dGDistribution.enc a0)] [] = some y :=
  callw_tree R_distribution_sumOfScores zT [] (by kernel_rfl) (by kernel_rfl) (by kernel_rfl) (by kernel_rfl) (by kernel_rfl) h

theorem e_ratio_wide_plus (a0 : GratioWide) (a1 : GratioWide) {y : AV × Mem} (h : (
  brn (Int.ofNat ((a0.lo.toNat + a1.lo.toNat + Int.toNat 0) / 2 ^ 64) == 0) (some (.agg (dGratioWide.enc (⟨Int.ofNat ((a0.hi.toNat + a1.hi.toNat + Int.toNat 0) % 2 ^ 64), Int.ofNat ((a0.lo.toNat + a1.lo.toNat + Int.toNat 0) % 2 ^ 64)⟩)), []))
  (brn (Int.ofNat ((a0.lo.toNat + a1.lo.toNat + Int.toNat 0) / 2 ^ 64) == 1) (some (.agg (dGratioWide.enc (⟨Int.ofNat ((a0.hi.toNat + a1.hi.toNat + Int.toNat 1) % 2 ^ 64), Int.ofNat ((a0.lo.toNat + a1.lo.toNat + Int.toNat 0) % 2 ^ 64)⟩)), []))
   (none))) = some y) : cw f_ratio_wide_plus [.agg (dGratioWide.enc a0), .agg (dGratioWide.enc a1)] [] = some y :=
  callw_tree R_ratio_wide_plus zT [] (by kernel_rfl) (by kernel_rfl) (by kernel_rfl) (by kernel_rfl) (by kernel_rfl) h

theorem e_ratio_wide_compare (a0 : GratioWide) (a1 : GratioWide) {y : AV × Mem} (h : (
  callD r_cmp_Compare_uint64 (cw f_cmp_Compare_uint64 [.v (.int .u64 a0.hi), .v (.int .u64 a1.hi)] []) fun (r0 : Int) =>
  brn (r0 != 0) (some (I r0, []))
  (callD r_cmp_Compare_uint64 (cw f_cmp_Compare_uint64 [.v (.int .u64 a0.lo), .v (.int .u64 a1.lo)] []) fun (r1 : Int) =>
   some (I r1, []))) = some y) : cw f_ratio_wide_compare [.agg (dGratioWide.enc a0), .agg (dGratioWide.enc a1)] [] = some y :=
  callw_tree R_ratio_wide_compare zT [] (by kernel_rfl) (by kernel_rfl) (by kernel_rfl) (by kernel_rfl) (by kernel_rfl) h

theorem e_ratio_wide_minus (a0 : GratioWide) (a1 : GratioWide) {y : AV × Mem} (h : (
  brn (Int.ofNat (if a0.lo.toNat < a1.lo.toNat + Int.toNat 0 then 1 else 0) == 0) (some (.agg (dGratioWide.enc (⟨Int.ofNat ((a0.hi.toNat + 2 ^ 64 - a1.hi.toNat - Int.toNat 0) % 2 ^ 64), Int.ofNat ((a0.lo.toNat + 2 ^ 64 - a1.lo.toNat - Int.toNat 0) % 2 ^ 64)⟩)), []))
  (brn (Int.ofNat (if a0.lo.toNat < a1.lo.toNat + Int.toNat 0 then 1 else 0) == 1) (some (.agg (dGratioWide.enc (⟨Int.ofNat ((a0.hi.toNat + 2 ^ 64 - a1.hi.toNat - Int.toNat 1) % 2 ^ 64), Int.ofNat ((a0.lo.toNat + 2 ^ 64 - a1.lo.toNat - Int.toNat 0) % 2 ^ 64)⟩)), []))
   (none))) = some y) : cw f_ratio_wide_minus [.agg (dGratioWide.enc a0), .agg (dGratioWide.enc a1)] [] = some y :=
  callw_tree R_ratio_wide_minus zT [] (by kernel_rfl) (by kernel_rfl) (by kernel_rfl) (by kernel_rfl) (by kernel_rfl) h

theorem e_bits_Rem64 (a0 : Int) (a1 : Int) (a2 : Int) {y : AV × Mem} (h : (
  chk ((a2 : Int) ≠ 0) <|
  callD r_bits_Div64 (cw f_bits_Div64 [.v (.int .u64 (a0.tmod a2)), .v (.int .u64 a1), .v (.int .u64 a2)] []) fun (r0 : Int × Int) =>
  some (.v (.int .u64 r0.snd), [])) = some y) : cw f_bits_Rem64 [.v (.int .u64 a0), .v (.int .u64 a1), .v (.int .u64 a2)] [] = some y :=
  callw_tree R_bits_Rem64 zT [] (by kernel_rfl) (by kernel_rfl) (by kernel_rfl) (by kernel_rfl) (by kernel_rfl) h

theorem e_bits_Div64 (a1 : Int) (a2 : Int) {y : AV × Mem} (h : (
  brn (a2 == 0) (none)
  (brn (decide (a2 ≤ 0)) (none)
   (chk ((a2 : Int) ≠ 0) <|
    chk ((a2 : Int) ≠ 0) <|
    some (.tup [.v (.int .u64 (wu64 (a1.tdiv a2))), .v (.int .u64 (a1.tmod a2))], [])))) = some y) : cw f_bits_Div64 [.v (.int .u64 0), .v (.int .u64 a1), .v (.int .u64 a2)] [] = some y :=
  callw_tree R_bits_Div64 zT [] (by kernel_rfl) (by kernel_rfl) (by kernel_rfl) (by kernel_rfl) (by kernel_rfl) h

theorem e_bits_Mul64 (a0 : Int) (a1 : Int) {y : AV × Mem} (h : (
  chk ((0 : Int) ≤ 32) <|
  chk ((0 : Int) ≤ 32) <|
  chk ((0 : Int) ≤ 32) <|
  chk ((0 : Int) ≤ 32) <|
  chk ((0 : Int) ≤ 32) <|
  some (.tup [.v (.int .u64 (wu64 (wu64 (wu64 (a0.fdiv (2 ^ Min.min (Int.toNat 32) 64) * a1.fdiv (2 ^ Min.min (Int.toNat 32) 64)) + (wu64 (wu64 (a0.fdiv (2 ^ Min.min (Int.toNat 32) 64) * wu64 (↑((a1 % Int.ofNat (2 ^ 64)).toNat &&& (4294967295 % Int.ofNat (2 ^ 64)).toNat) : Int)) + (wu64 (wu64 (↑((a0 % Int.ofNat (2 ^ 64)).toNat &&& (4294967295 % Int.ofNat (2 ^ 64)).toNat) : Int) * wu64 (↑((a1 % Int.ofNat (2 ^ 64)).toNat &&& (4294967295 % Int.ofNat (2 ^ 64)).toNat) : Int))).fdiv (2 ^ Min.min (Int.toNat 32) 64))).fdiv (2 ^ Min.min (Int.toNat 32) 64)) + (wu64 (wu64 (↑((wu64 (wu64 (a0.fdiv (2 ^ Min.min (Int.toNat 32) 64) * wu64 (↑((a1 % Int.ofNat (2 ^ 64)).toNat &&& (4294967295 % Int.ofNat (2 ^ 64)).toNat) : Int)) + (wu64 (wu64 (↑((a0 % Int.ofNat (2 ^ 64)).toNat &&& (4294967295 % Int.ofNat (2 ^ 64)).toNat) : Int) * wu64 (↑((a1 % Int.ofNat (2 ^ 64)).toNat &&& (4294967295 % Int.ofNat (2 ^ 64)).toNat) : Int))).fdiv (2 ^ Min.min (Int.toNat 32) 64)) % Int.ofNat (2 ^ 64)).toNat &&& (4294967295 % Int.ofNat (2 ^ 64)).toNat) : Int) + wu64 (wu64 (↑((a0 % Int.ofNat (2 ^ 64)).toNat &&& (4294967295 % Int.ofNat (2 ^ 64)).toNat) : Int) * a1.fdiv (2 ^ Min.min (Int.toNat 32) 64)))).fdiv (2 ^ Min.min (Int.toNat 32) 64)))), .v (.int .u64 (wu64 (a0 * a1)))], [])) = some y) : cw f_bits_Mul64 [.v (.int .u64 a0), .v (.int .u64 a1)] [] = some y :=
  callw_tree R_bits_Mul64 zT [] (by kernel_rfl) (by kernel_rfl) (by kernel_rfl) (by kernel_rfl) (by kernel_rfl) h

end Go.Proofs.Ytapkemilafogjaa
