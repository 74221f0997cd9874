/- What the functions compute, between two cut points: printed by a program, checked by the kernel. -/
import Derived.Test.YtiienbfdcgipnaaAnn
namespace Go.Proofs.Ytiienbfdcgipnaa
open Go.Ab
set_option maxRecDepth 100000
set_option linter.unusedVariables false

noncomputable def k_conversion_normal_1009 (a0 : List GPoint) (r0 : (List GPoint) × Int) (r5 : GRatio × GconversionSteps) (r8 : GRatio × GconversionSteps) : Option (AV × Mem) := pt R_conversion_normal 1009 ⟨[(0, .sl 4 (List.map dGPoint.enc a0)), (2, .loc 2 1 0 0), (4, .sl 4 (List.map dGPoint.enc r0.fst)), (6, .loc 6 1 0 0), (7, .loc 7 2 0 0), (8, .loc 8 2 0 0)], [(2, ⟨1, ty_api_Curve, [[.v (.slice none 0 0)]], true⟩), (6, ⟨1, ty_conversion_steps, [dGconversionSteps.enc r8.snd], true⟩), (7, ⟨2, ty_api_Ratio, [dGRatio.enc r5.fst], true⟩), (8, ⟨2, ty_api_Ratio, [dGRatio.enc r8.fst], true⟩)]⟩

noncomputable def k_conversion_normal_1009v1 (a0 : List GPoint) (r0 : (List GPoint) × Int) (r1 : GRatio) (r2 : GRatio) : Option (AV × Mem) := pt R_conversion_normal 1009 ⟨[(0, .sl 4 (List.map dGPoint.enc a0)), (2, .loc 2 1 0 0), (4, .sl 4 (List.map dGPoint.enc r0.fst)), (6, .loc 6 1 0 0), (7, .loc 7 2 0 0), (8, .loc 8 2 0 0), (24, B false)], [(2, ⟨1, ty_api_Curve, [[.v (.slice none 0 0)]], true⟩), (6, ⟨1, ty_conversion_steps, [dGconversionSteps.enc ⟨0⟩], true⟩), (7, ⟨2, ty_api_Ratio, [dGRatio.enc r1], true⟩), (8, ⟨2, ty_api_Ratio, [dGRatio.enc r2], true⟩)]⟩

theorem t_conversion_normal_1009 (a0 : List GPoint) (r0 : (List GPoint) × Int) (r5 : GRatio × GconversionSteps) (r8 : GRatio × GconversionSteps) {y : AV × Mem} (h : (
  brn (r8.snd.e != 0) (some (.tup [.agg (dGCurve.enc ⟨[]⟩), I r8.snd.e], []))
  (callD r_conversion_pointAt (cw f_conversion_pointAt [.sl 4 (List.map dGPoint.enc a0), .agg (dGRatio.enc r5.fst)] []) fun (r9 : GPoint × Int) =>
   brn (r9.snd != 0) (some (.tup [.agg (dGCurve.enc ⟨[]⟩), I r9.snd], []))
   (callD r_conversion_pointAt (cw f_conversion_pointAt [.sl 4 (List.map dGPoint.enc a0), .agg (dGRatio.enc r8.fst)] []) fun (r10 : GPoint × Int) =>
    brn (r10.snd != 0) (some (.tup [.agg (dGCurve.enc ⟨[]⟩), I r10.snd], []))
    (brn (decide (410 < w64 ((↑(List.map dGPoint.enc r0.fst).length : Int) + 2))) (some (.tup [.agg (dGCurve.enc ⟨[]⟩), I 3], []))
     (chk (1 = 1) <|
      chk ((1 + (List.map dGPoint.enc r0.fst).length) * (32 + 1) ≤ 1099511627776) <|
      chk (([[AV.v (Go.Value.int IntKind.i64 r9.fst.X.Num), AV.v (Go.Value.int IntKind.i64 r9.fst.X.Den), AV.v (Go.Value.int IntKind.i64 r9.fst.Y.Num), AV.v (Go.Value.int IntKind.i64 r9.fst.Y.Den)]] ++ List.map dGPoint.enc r0.fst).length = ([[AV.v (Go.Value.int IntKind.i64 r9.fst.X.Num), AV.v (Go.Value.int IntKind.i64 r9.fst.X.Den), AV.v (Go.Value.int IntKind.i64 r9.fst.Y.Num), AV.v (Go.Value.int IntKind.i64 r9.fst.Y.Den)]] ++ List.map dGPoint.enc r0.fst).length) <|
      chk ((([[AV.v (Go.Value.int IntKind.i64 r9.fst.X.Num), AV.v (Go.Value.int IntKind.i64 r9.fst.X.Den), AV.v (Go.Value.int IntKind.i64 r9.fst.Y.Num), AV.v (Go.Value.int IntKind.i64 r9.fst.Y.Den)]] ++ List.map dGPoint.enc r0.fst).length + 1) * (32 + 1) ≤ 1099511627776) <|
      chk (0 + ([[AV.v (Go.Value.int IntKind.i64 r9.fst.X.Num), AV.v (Go.Value.int IntKind.i64 r9.fst.X.Den), AV.v (Go.Value.int IntKind.i64 r9.fst.Y.Num), AV.v (Go.Value.int IntKind.i64 r9.fst.Y.Den)]] ++ List.map dGPoint.enc r0.fst ++ [[AV.v (Go.Value.int IntKind.i64 r10.fst.X.Num), AV.v (Go.Value.int IntKind.i64 r10.fst.X.Den), AV.v (Go.Value.int IntKind.i64 r10.fst.Y.Num), AV.v (Go.Value.int IntKind.i64 r10.fst.Y.Den)]]).length ≤ ([[AV.v (Go.Value.int IntKind.i64 r9.fst.X.Num), AV.v (Go.Value.int IntKind.i64 r9.fst.X.Den), AV.v (Go.Value.int IntKind.i64 r9.fst.Y.Num), AV.v (Go.Value.int IntKind.i64 r9.fst.Y.Den)]] ++ List.map dGPoint.enc r0.fst ++ [[AV.v (Go.Value.int IntKind.i64 r10.fst.X.Num), AV.v (Go.Value.int IntKind.i64 r10.fst.X.Den), AV.v (Go.Value.int IntKind.i64 r10.fst.Y.Num), AV.v (Go.Value.int IntKind.i64 r10.fst.Y.Den)]]).length) <|
      some (.tup [.agg [.sl 4 (List.take (([[AV.v (Go.Value.int IntKind.i64 r9.fst.X.Num), AV.v (Go.Value.int IntKind.i64 r9.fst.X.Den), AV.v (Go.Value.int IntKind.i64 r9.fst.Y.Num), AV.v (Go.Value.int IntKind.i64 r9.fst.Y.Den)]] ++ List.map dGPoint.enc r0.fst ++ [[AV.v (Go.Value.int IntKind.i64 r10.fst.X.Num), AV.v (Go.Value.int IntKind.i64 r10.fst.X.Den), AV.v (Go.Value.int IntKind.i64 r10.fst.Y.Num), AV.v (Go.Value.int IntKind.i64 r10.fst.Y.Den)]]).length) ((([[I r9.fst.X.Num, I r9.fst.X.Den, I r9.fst.Y.Num, I r9.fst.Y.Den]]) ++ (List.map dGPoint.enc r0.fst)) ++ ([[I r10.fst.X.Num, I r10.fst.X.Den, I r10.fst.Y.Num, I r10.fst.Y.Den]])))], I 0], [])))))) = some y) : k_conversion_normal_1009 a0 r0 r5 r8 = some y :=
  pt_of zT [9] (by kernel_rfl) h

theorem t_conversion_normal_1009v1 (a0 : List GPoint) (r0 : (List GPoint) × Int) (r1 : GRatio) (r2 : GRatio) {y : AV × Mem} (h : (
  callD r_conversion_pointAt (cw f_conversion_pointAt [.sl 4 (List.map dGPoint.enc a0), .agg (dGRatio.enc r1)] []) fun (r11 : GPoint × Int) =>
  brn (r11.snd != 0) (some (.tup [.agg (dGCurve.enc ⟨[]⟩), I r11.snd], []))
  (callD r_conversion_pointAt (cw f_conversion_pointAt [.sl 4 (List.map dGPoint.enc a0), .agg (dGRatio.enc r2)] []) fun (r12 : GPoint × Int) =>
   brn (r12.snd != 0) (some (.tup [.agg (dGCurve.enc ⟨[]⟩), I r12.snd], []))
   (brn (decide (410 < w64 ((↑(List.map dGPoint.enc r0.fst).length : Int) + 2))) (some (.tup [.agg (dGCurve.enc ⟨[]⟩), I 3], []))
    (chk (1 = 1) <|
     chk ((1 + (List.map dGPoint.enc r0.fst).length) * (32 + 1) ≤ 1099511627776) <|
     chk (([[AV.v (Go.Value.int IntKind.i64 r11.fst.X.Num), AV.v (Go.Value.int IntKind.i64 r11.fst.X.Den), AV.v (Go.Value.int IntKind.i64 r11.fst.Y.Num), AV.v (Go.Value.int IntKind.i64 r11.fst.Y.Den)]] ++ List.map dGPoint.enc r0.fst).length = ([[AV.v (Go.Value.int IntKind.i64 r11.fst.X.Num), AV.v (Go.Value.int IntKind.i64 r11.fst.X.Den), AV.v (Go.Value.int IntKind.i64 r11.fst.Y.Num), AV.v (Go.Value.int IntKind.i64 r11.fst.Y.Den)]] ++ List.map dGPoint.enc r0.fst).length) <|
     chk ((([[AV.v (Go.Value.int IntKind.i64 r11.fst.X.Num), AV.v (Go.Value.int IntKind.i64 r11.fst.X.Den), AV.v (Go.Value.int IntKind.i64 r11.fst.Y.Num), AV.v (Go.Value.int IntKind.i64 r11.fst.Y.Den)]] ++ List.map dGPoint.enc r0.fst).length + 1) * (32 + 1) ≤ 1099511627776) <|
     chk (0 + ([[AV.v (Go.Value.int IntKind.i64 r11.fst.X.Num), AV.v (Go.Value.int IntKind.i64 r11.fst.X.Den), AV.v (Go.Value.int IntKind.i64 r11.fst.Y.Num), AV.v (Go.Value.int IntKind.i64 r11.fst.Y.Den)]] ++ List.map dGPoint.enc r0.fst ++ [[AV.v (Go.Value.int IntKind.i64 r12.fst.X.Num), AV.v (Go.Value.int IntKind.i64 r12.fst.X.Den), AV.v (Go.Value.int IntKind.i64 r12.fst.Y.Num), AV.v (Go.Value.int IntKind.i64 r12.fst.Y.Den)]]).length ≤ ([[AV.v (Go.Value.int IntKind.i64 r11.fst.X.Num), AV.v (Go.Value.int IntKind.i64 r11.fst.X.Den), AV.v (Go.Value.int IntKind.i64 r11.fst.Y.Num), AV.v (Go.Value.int IntKind.i64 r11.fst.Y.Den)]] ++ List.map dGPoint.enc r0.fst ++ [[AV.v (Go.Value.int IntKind.i64 r12.fst.X.Num), AV.v (Go.Value.int IntKind.i64 r12.fst.X.Den), AV.v (Go.Value.int IntKind.i64 r12.fst.Y.Num), AV.v (Go.Value.int IntKind.i64 r12.fst.Y.Den)]]).length) <|
     some (.tup [.agg [.sl 4 (List.take (([[AV.v (Go.Value.int IntKind.i64 r11.fst.X.Num), AV.v (Go.Value.int IntKind.i64 r11.fst.X.Den), AV.v (Go.Value.int IntKind.i64 r11.fst.Y.Num), AV.v (Go.Value.int IntKind.i64 r11.fst.Y.Den)]] ++ List.map dGPoint.enc r0.fst ++ [[AV.v (Go.Value.int IntKind.i64 r12.fst.X.Num), AV.v (Go.Value.int IntKind.i64 r12.fst.X.Den), AV.v (Go.Value.int IntKind.i64 r12.fst.Y.Num), AV.v (Go.Value.int IntKind.i64 r12.fst.Y.Den)]]).length) ((([[I r11.fst.X.Num, I r11.fst.X.Den, I r11.fst.Y.Num, I r11.fst.Y.Den]]) ++ (List.map dGPoint.enc r0.fst)) ++ ([[I r12.fst.X.Num, I r12.fst.X.Den, I r12.fst.Y.Num, I r12.fst.Y.Den]])))], I 0], []))))) = some y) : k_conversion_normal_1009v1 a0 r0 r1 r2 = some y :=
  pt_of zT [9] (by kernel_rfl) h

theorem e_conversion_normal (a0 : List GPoint) {y : AV × Mem} (h : (
  callD r_conversion_bends (cw f_conversion_bends [.sl 4 (List.map dGPoint.enc a0)] []) fun (r0 : (List GPoint) × Int) =>
  brn (r0.snd != 0) (some (.tup [.agg (dGCurve.enc ⟨[]⟩), I r0.snd], []))
  (callD r_conversion_whole (cw f_conversion_whole [I 0] []) fun (r1 : GRatio) =>
   callD r_conversion_whole (cw f_conversion_whole [I 1] []) fun (r2 : GRatio) =>
   brn (decide (0 < (↑(List.map dGPoint.enc r0.fst).length : Int))) (chk ((0 : Int) ≤ 0) <|
    elemD dGPoint (List.map dGPoint.enc r0.fst) (Int.toNat 0) fun (c3 : GPoint) =>
    callD r_conversion_whole (cw f_conversion_whole [I 1] []) fun (r4 : GRatio) =>
    callD r_conversion_steps_do (cw f_conversion_steps_do [.loc 1000 1 0 0, .fn f_ratio_Sub [], .agg (dGRatio.enc c3.X), .agg (dGRatio.enc r4)] [(1000, ⟨1, ty_conversion_steps, [dGconversionSteps.enc ⟨0⟩], true⟩)]) fun (r5 : GRatio × GconversionSteps) =>
    chk ((0 : Int) ≤ (w64 ((↑(List.map dGPoint.enc r0.fst).length : Int) - 1))) <|
    elemD dGPoint (List.map dGPoint.enc r0.fst) ((w64 ((↑(List.map dGPoint.enc r0.fst).length : Int) - 1)).toNat) fun (c6 : GPoint) =>
    callD r_conversion_whole (cw f_conversion_whole [I 1] []) fun (r7 : GRatio) =>
    callD r_conversion_steps_do (cw f_conversion_steps_do [.loc 1000 1 0 0, .fn f_ratio_Add [], .agg (dGRatio.enc c6.X), .agg (dGRatio.enc r7)] [(1000, ⟨1, ty_conversion_steps, [dGconversionSteps.enc r5.snd], true⟩)]) fun (r8 : GRatio × GconversionSteps) =>
    k_conversion_normal_1009 a0 r0 r5 r8)
   (k_conversion_normal_1009v1 a0 r0 r1 r2))) = some y) : cw f_conversion_normal [.sl 4 (List.map dGPoint.enc a0)] [] = some y :=
  callw_tree R_conversion_normal zT [9] (by kernel_rfl) (by kernel_rfl) (by kernel_rfl) (by kernel_rfl) (by kernel_rfl) h

noncomputable def k_slices_Equal_api_Point_api_Point_1 (a0 : List GPoint) (a1 : List GPoint) (x0 : Int) : Option (AV × Mem) := pt R_slices_Equal_api_Point_api_Point 1 ⟨[(0, .sl 4 (List.map dGPoint.enc a0)), (1, .sl 4 (List.map dGPoint.enc a1)), (12, I ((↑(List.map dGPoint.enc a0).length : Int))), (13, I x0)], []⟩

theorem t_slices_Equal_api_Point_api_Point_1 (a0 : List GPoint) (a1 : List GPoint) (x0 : Int) {y : AV × Mem} (h : (
  brn (decide (x0 < (↑(List.map dGPoint.enc a0).length : Int))) (chk ((0 : Int) ≤ x0) <|
   elemD dGPoint (List.map dGPoint.enc a0) x0.toNat fun (c1 : GPoint) =>
   chk ((0 : Int) ≤ x0) <|
   elemD dGPoint (List.map dGPoint.enc a1) x0.toNat fun (c2 : GPoint) =>
   brn (!(c1.X.Num == c2.X.Num && (c1.X.Den == c2.X.Den && true) && (c1.Y.Num == c2.Y.Num && (c1.Y.Den == c2.Y.Den && true) && true))) (some (B false, []))
   (k_slices_Equal_api_Point_api_Point_1 a0 a1 (w64 (x0 + 1))))
  (some (B true, []))) = some y) : k_slices_Equal_api_Point_api_Point_1 a0 a1 x0 = some y :=
  pt_of zT [] (by kernel_rfl) h

theorem e_slices_Equal_api_Point_api_Point (a0 : List GPoint) (a1 : List GPoint) {y : AV × Mem} (h : (
  brn ((↑(List.map dGPoint.enc a0).length : Int) != (↑(List.map dGPoint.enc a1).length : Int)) (some (B false, []))
  (k_slices_Equal_api_Point_api_Point_1 a0 a1 0)) = some y) : cw f_slices_Equal_api_Point_api_Point [.sl 4 (List.map dGPoint.enc a0), .sl 4 (List.map dGPoint.enc a1)] [] = some y :=
  callw_tree R_slices_Equal_api_Point_api_Point zT [] (by kernel_rfl) (by kernel_rfl) (by kernel_rfl) (by kernel_rfl) (by kernel_rfl) h

noncomputable def k_conversion_ascending_1 (a0 : List GPoint) (x0 : Int) : Option (AV × Mem) := pt R_conversion_ascending 1 ⟨[(0, .sl 4 (List.map dGPoint.enc a0)), (5, .sl 4 (List.map dGPoint.enc a0)), (6, I ((↑(List.map dGPoint.enc a0).length : Int))), (7, I x0)], []⟩

theorem t_conversion_ascending_1 (a0 : List GPoint) (x0 : Int) {y : AV × Mem} (h : (
  brn (decide (x0 < (↑(List.map dGPoint.enc a0).length : Int))) (chk ((0 : Int) ≤ x0) <|
   elemD dGPoint (List.map dGPoint.enc a0) x0.toNat fun (c1 : GPoint) =>
   callD r_ratio_Valid (cw f_ratio_Valid [.agg (dGRatio.enc c1.X)] []) fun (r2 : Bool) =>
   brn (!r2) (some (B false, []))
   (callD r_ratio_Valid (cw f_ratio_Valid [.agg (dGRatio.enc c1.Y)] []) fun (r3 : Bool) =>
    brn (!r3) (some (B false, []))
    (brn (decide (0 < x0)) (chk ((0 : Int) ≤ (w64 (x0 - 1))) <|
      elemD dGPoint (List.map dGPoint.enc a0) ((w64 (x0 - 1)).toNat) fun (c4 : GPoint) =>
      callD r_ratio_Less (cw f_ratio_Less [.agg (dGRatio.enc c4.X), .agg (dGRatio.enc c1.X)] []) fun (r5 : Bool) =>
      brn (!r5) (some (B false, []))
      (chk ((0 : Int) ≤ (w64 (x0 - 1))) <|
       elemD dGPoint (List.map dGPoint.enc a0) ((w64 (x0 - 1)).toNat) fun (c6 : GPoint) =>
       callD r_ratio_Less (cw f_ratio_Less [.agg (dGRatio.enc c6.Y), .agg (dGRatio.enc c1.Y)] []) fun (r7 : Bool) =>
       brn (!r7) (some (B false, []))
       (k_conversion_ascending_1 a0 (w64 (x0 + 1)))))
     (k_conversion_ascending_1 a0 (w64 (x0 + 1))))))
  (some (B true, []))) = some y) : k_conversion_ascending_1 a0 x0 = some y :=
  pt_of zT [] (by kernel_rfl) h

theorem e_conversion_ascending (a0 : List GPoint) {y : AV × Mem} (h : (
  k_conversion_ascending_1 a0 0) = some y) : cw f_conversion_ascending [.sl 4 (List.map dGPoint.enc a0)] [] = some y :=
  callw_tree R_conversion_ascending zT [] (by kernel_rfl) (by kernel_rfl) (by kernel_rfl) (by kernel_rfl) (by kernel_rfl) h

theorem e_ratio_Valid (a0 : GRatio) {y : AV × Mem} (h : (
  brn (decide (a0.Den < 1)) (some (B false, []))
  (brn (decide (1152921504606846976 < a0.Den)) (some (B false, []))
   (brn (decide (a0.Num < -1152921504606846976)) (some (B false, []))
    (brn (decide (1152921504606846976 < a0.Num)) (some (B false, []))
     (callD r_ratio_magnitude (cw f_ratio_magnitude [I a0.Num] []) fun (r0 : Int) =>
      callD r_ratio_gcd (cw f_ratio_gcd [.v (.int .u64 r0), .v (.int .u64 (wu64 a0.Den))] []) fun (r1 : Int) =>
      some (B (r1 == 1), [])))))) = some y) : cw f_ratio_Valid [.agg (dGRatio.enc a0)] [] = some y :=
  callw_tree R_ratio_Valid zT [] (by kernel_rfl) (by kernel_rfl) (by kernel_rfl) (by kernel_rfl) (by kernel_rfl) h

theorem e_conversion_eval (a0 : List GPoint) (a1 : GRatio) {y : AV × Mem} (h : (
  callD r_sort_Search (cw f_sort_Search [I (w64 (w64 ((↑(List.map dGPoint.enc a0).length : Int) - 1) - 1)), .fn f_conversion_eval_1 [.fp [I a1.Num, I a1.Den], .fp [.sl 4 (List.map dGPoint.enc a0)]]] []) fun (r0 : Int) =>
  chk ((0 : Int) ≤ (w64 (w64 (1 + r0) - 1))) <|
  elemD dGPoint (List.map dGPoint.enc a0) ((w64 (w64 (1 + r0) - 1)).toNat) fun (c1 : GPoint) =>
  chk ((0 : Int) ≤ (w64 (1 + r0))) <|
  elemD dGPoint (List.map dGPoint.enc a0) ((w64 (1 + r0)).toNat) fun (c2 : GPoint) =>
  callD r_conversion_steps_slope (cw f_conversion_steps_slope [.loc 1000 1 0 0, .agg (dGPoint.enc c1), .agg (dGPoint.enc c2)] [(1000, ⟨1, ty_conversion_steps, [dGconversionSteps.enc ⟨0⟩], true⟩)]) fun (r3 : GRatio × GconversionSteps) =>
  callD r_conversion_steps_do (cw f_conversion_steps_do [.loc 1000 1 0 0, .fn f_ratio_Sub [], .agg (dGRatio.enc a1), .agg (dGRatio.enc c1.X)] [(1000, ⟨1, ty_conversion_steps, [dGconversionSteps.enc r3.snd], true⟩)]) fun (r4 : GRatio × GconversionSteps) =>
  callD r_conversion_steps_do (cw f_conversion_steps_do [.loc 1000 1 0 0, .fn f_ratio_Mul [], .agg (dGRatio.enc r4.fst), .agg (dGRatio.enc r3.fst)] [(1000, ⟨1, ty_conversion_steps, [dGconversionSteps.enc r4.snd], true⟩)]) fun (r5 : GRatio × GconversionSteps) =>
  callD r_conversion_steps_do (cw f_conversion_steps_do [.loc 1000 1 0 0, .fn f_ratio_Add [], .agg (dGRatio.enc c1.Y), .agg (dGRatio.enc r5.fst)] [(1000, ⟨1, ty_conversion_steps, [dGconversionSteps.enc r5.snd], true⟩)]) fun (r6 : GRatio × GconversionSteps) =>
  some (.tup [.agg (dGRatio.enc r6.fst), I r6.snd.e], [])) = some y) : cw f_conversion_eval [.sl 4 (List.map dGPoint.enc a0), .agg (dGRatio.enc a1)] [] = some y :=
  callw_tree R_conversion_eval zT [] (by kernel_rfl) (by kernel_rfl) (by kernel_rfl) (by kernel_rfl) (by kernel_rfl) h

theorem e_ref01_Compare (a0 : GRatio) (a1 : GRatio) {y : AV × Mem} (h : (
  callD r_ref01_Valid (cw f_ref01_Valid [.agg (dGRatio.enc a0)] []) fun (r0 : Bool) =>
  brn (!r0) (some (I 0, []))
  (callD r_ref01_Valid (cw f_ref01_Valid [.agg (dGRatio.enc a1)] []) fun (r1 : Bool) =>
   brn (!r1) (some (I 0, []))
   (callD r_ref01_Size (cw f_ref01_Size [I a0.Num] []) fun (r2 : Int) =>
    callD r_ref01_Size (cw f_ref01_Size [I a1.Den] []) fun (r3 : Int) =>
    callD r_ref01_Product (cw f_ref01_Product [.v (.int .u64 r2), .v (.int .u64 r3)] []) fun (r4 : Gref01Wide) =>
    callD r_ref01_Size (cw f_ref01_Size [I a1.Num] []) fun (r5 : Int) =>
    callD r_ref01_Size (cw f_ref01_Size [I a0.Den] []) fun (r6 : Int) =>
    callD r_ref01_Product (cw f_ref01_Product [.v (.int .u64 r5), .v (.int .u64 r6)] []) fun (r7 : Gref01Wide) =>
    callD r_ref01_total (cw f_ref01_total [B (decide (a0.Num < 0)), .agg (dGref01Wide.enc r4), B (decide (0 < a1.Num)), .agg (dGref01Wide.enc r7)] []) fun (r8 : Bool × Gref01Wide) =>
    brn (r8.snd.Hi == 0 && (r8.snd.Lo == 0 && true)) (some (I 0, []))
    (brn r8.fst (some (I (-1), []))
     (some (I 1, [])))))) = some y) : cw f_ref01_Compare [.agg (dGRatio.enc a0), .agg (dGRatio.enc a1)] [] = some y :=
  callw_tree R_ref01_Compare zT [] (by kernel_rfl) (by kernel_rfl) (by kernel_rfl) (by kernel_rfl) (by kernel_rfl) h

theorem e_conversion_whole (a0 : Int) {y : AV × Mem} (h : (
  some (.agg (dGRatio.enc (⟨a0, 1⟩)), [])) = some y) : cw f_conversion_whole [I a0] [] = some y :=
  callw_tree R_conversion_whole zT [] (by kernel_rfl) (by kernel_rfl) (by kernel_rfl) (by kernel_rfl) (by kernel_rfl) h

theorem e_ratio_Round (a0 : GRatio) {y : AV × Mem} (h : (
  callD r_ratio_rounded (cw f_ratio_rounded [.agg (dGRatio.enc a0), .fn f_ratio_toRound []] []) fun (r0 : Int) =>
  some (I r0, [])) = some y) : cw f_ratio_Round [.agg (dGRatio.enc a0)] [] = some y :=
  callw_tree R_ratio_Round zT [] (by kernel_rfl) (by kernel_rfl) (by kernel_rfl) (by kernel_rfl) (by kernel_rfl) h

noncomputable def k_conversion_exchanged_1 (a0 : List GPoint) (x0 : List (List AV)) (x1 : Int) : Option (AV × Mem) := pt R_conversion_exchanged 1 ⟨[(3, .row 8 4 0 ((List.replicate (↑(List.map dGPoint.enc a0).length : Int).toNat (AV.v (Go.Value.int IntKind.i64 0) :: AV.v (Go.Value.int IntKind.i64 0) :: AV.v (Go.Value.int IntKind.i64 0) :: AV.v (Go.Value.int IntKind.i64 0) :: List.map AV.v [])).length)), (9, .sl 4 (List.map dGPoint.enc a0)), (10, I ((↑(List.map dGPoint.enc a0).length : Int))), (11, I x1)], [(8, ⟨4, ty_api_Point, x0, false⟩)]⟩

theorem t_conversion_exchanged_1 (a0 : List GPoint) (x0 : List (List AV)) (x1 : Int) {y : AV × Mem} (h : (
  brn (decide (x1 < (↑(List.map dGPoint.enc a0).length : Int))) (chk ((0 : Int) ≤ x1) <|
   elemD dGPoint (List.map dGPoint.enc a0) x1.toNat fun (c2 : GPoint) =>
   chk ((0 : Int) ≤ x1) <|
   chk ((x1 : Int) < ((↑(List.replicate (↑(List.map dGPoint.enc a0).length : Int).toNat (AV.v (Go.Value.int IntKind.i64 0) :: AV.v (Go.Value.int IntKind.i64 0) :: AV.v (Go.Value.int IntKind.i64 0) :: AV.v (Go.Value.int IntKind.i64 0) :: List.map AV.v [])).length : Int))) <|
   elemD dGPoint x0 (0 + x1.toNat) fun (c3 : GPoint) =>
   k_conversion_exchanged_1 a0 (List.set x0 (0 + x1.toNat) (dGPoint.enc (⟨⟨c2.Y.Num, c2.Y.Den⟩, ⟨c2.X.Num, c2.X.Den⟩⟩))) (w64 (x1 + 1)))
  (chk ((List.replicate (↑(List.map dGPoint.enc a0).length : Int).toNat (AV.v (Go.Value.int IntKind.i64 0) :: AV.v (Go.Value.int IntKind.i64 0) :: AV.v (Go.Value.int IntKind.i64 0) :: AV.v (Go.Value.int IntKind.i64 0) :: List.map AV.v [])).length = x0.length) <|
   some (.new 4 ty_api_Point x0, []))) = some y) : k_conversion_exchanged_1 a0 x0 x1 = some y :=
  pt_of zT [] (by kernel_rfl) h

theorem e_conversion_exchanged (a0 : List GPoint) {y : AV × Mem} (h : (
  chk (((↑(List.map dGPoint.enc a0).length : Int) : Int) = ((↑(List.map dGPoint.enc a0).length : Int))) <|
  chk ((0 : Int) ≤ ((↑(List.map dGPoint.enc a0).length : Int))) <|
  chk ((↑(List.map dGPoint.enc a0).length : Int).toNat * (32 + 1) ≤ 1099511627776) <|
  k_conversion_exchanged_1 a0 (List.replicate ((↑(List.map dGPoint.enc a0).length : Int).toNat) (dGPoint.enc (⟨⟨0, 0⟩, ⟨0, 0⟩⟩))) 0) = some y) : cw f_conversion_exchanged [.sl 4 (List.map dGPoint.enc a0)] [] = some y :=
  callw_tree R_conversion_exchanged zT [] (by kernel_rfl) (by kernel_rfl) (by kernel_rfl) (by kernel_rfl) (by kernel_rfl) h

theorem e_slices_SortFunc_api_Ratio_api_Ratio (a0 : List GRatio) {y : AV × Mem} (h : (
  callD r_bits_Len (cw f_bits_Len [.v (.int .u64 (wu64 (↑(List.map dGRatio.enc a0).length : Int)))] []) fun (r0 : Int) =>
  callD r_slices_pdqsortCmpFunc_api_Ratio (cw f_slices_pdqsortCmpFunc_api_Ratio [.row 1000 2 0 (List.length (List.map dGRatio.enc a0)), I 0, I ((↑(List.map dGRatio.enc a0).length : Int)), I r0, .fn f_ratio_Compare []] [(1000, ⟨2, ty_api_Ratio, List.map dGRatio.enc a0, false⟩)]) fun (r1 : (List GRatio)) =>
  some (.tup [], [(1000, ⟨2, ty_api_Ratio, List.map dGRatio.enc r1, false⟩)])) = some y) : cw f_slices_SortFunc_api_Ratio_api_Ratio [.row 1000 2 0 (List.length (List.map dGRatio.enc a0)), .fn f_ratio_Compare []] [(1000, ⟨2, ty_api_Ratio, List.map dGRatio.enc a0, false⟩)] = some y :=
  callw_tree R_slices_SortFunc_api_Ratio_api_Ratio zT [] (by kernel_rfl) (by kernel_rfl) (by kernel_rfl) (by kernel_rfl) (by kernel_rfl) h

theorem e_ratio_Compare (a0 : GRatio) (a1 : GRatio) {y : AV × Mem} (h : (
  callD r_ratio_Valid (cw f_ratio_Valid [.agg (dGRatio.enc a0)] []) fun (r0 : Bool) =>
  brn (!r0) (some (I 0, []))
  (callD r_ratio_Valid (cw f_ratio_Valid [.agg (dGRatio.enc a1)] []) fun (r1 : Bool) =>
   brn (!r1) (some (I 0, []))
   (callD r_ratio_signedProduct (cw f_ratio_signedProduct [I a0.Num, .v (.int .u64 (wu64 a1.Den))] []) fun (r2 : GratioSigned) =>
    callD r_ratio_signedProduct (cw f_ratio_signedProduct [I a1.Num, .v (.int .u64 (wu64 a0.Den))] []) fun (r3 : GratioSigned) =>
    brn r2.neg (brn r3.neg (callD r_ratio_wide_compare (cw f_ratio_wide_compare [.agg (dGratioWide.enc r3.abs), .agg (dGratioWide.enc r2.abs)] []) fun (r4 : Int) =>
      some (I r4, []))
     (brn r2.neg (some (I (-1), []))
      (brn r3.neg (some (I 1, []))
       (callD r_ratio_wide_compare (cw f_ratio_wide_compare [.agg (dGratioWide.enc r2.abs), .agg (dGratioWide.enc r3.abs)] []) fun (r5 : Int) =>
        some (I r5, [])))))
    (brn r2.neg (some (I (-1), []))
     (brn r3.neg (some (I 1, []))
      (callD r_ratio_wide_compare (cw f_ratio_wide_compare [.agg (dGratioWide.enc r2.abs), .agg (dGratioWide.enc r3.abs)] []) fun (r6 : Int) =>
       some (I r6, []))))))) = some y) : cw f_ratio_Compare [.agg (dGRatio.enc a0), .agg (dGRatio.enc a1)] [] = some y :=
  callw_tree R_ratio_Compare zT [] (by kernel_rfl) (by kernel_rfl) (by kernel_rfl) (by kernel_rfl) (by kernel_rfl) h

noncomputable def k_slices_Compact_api_Ratio_api_Ratio_1 (a0 : List GRatio) (x0 : Int) : Option (AV × Mem) := pt R_slices_Compact_api_Ratio_api_Ratio 1 ⟨[(0, .row 1000 2 0 (List.length (List.map dGRatio.enc a0))), (3, I x0)], [(1000, ⟨2, ty_api_Ratio, List.map dGRatio.enc a0, false⟩)]⟩

noncomputable def k_slices_Compact_api_Ratio_api_Ratio_2 (a0 : List GRatio) (x0 : Int) (x3 : List (List AV)) (x4 : Int) (x5 : Int) : Option (AV × Mem) := pt R_slices_Compact_api_Ratio_api_Ratio 2 ⟨[(0, .row 1000 2 0 ((List.map dGRatio.enc a0).length)), (3, I x4), (4, .row 1000 2 (0 + x0.toNat) ((List.map dGRatio.enc a0).length - x0.toNat)), (5, I x5)], [(1000, ⟨2, ty_api_Ratio, x3, false⟩)]⟩

theorem t_slices_Compact_api_Ratio_api_Ratio_1 (a0 : List GRatio) (x0 : Int) {y : AV × Mem} (h : (
  brn (decide (x0 < (↑(List.map dGRatio.enc a0).length : Int))) (chk ((0 : Int) ≤ x0) <|
   chk ((x0 : Int) < ((↑(List.map dGRatio.enc a0).length : Int))) <|
   elemD dGRatio (List.map dGRatio.enc a0) (0 + x0.toNat) fun (c1 : GRatio) =>
   chk ((0 : Int) ≤ (w64 (x0 - 1))) <|
   chk ((w64 (x0 - 1) : Int) < ((↑(List.map dGRatio.enc a0).length : Int))) <|
   elemD dGRatio (List.map dGRatio.enc a0) (0 + (w64 (x0 - 1)).toNat) fun (c2 : GRatio) =>
   brn (c1.Num == c2.Num && (c1.Den == c2.Den && true)) (chk ((0 : Int) ≤ x0) <|
    chk (x0.toNat ≤ (List.map dGRatio.enc a0).length) <|
    chk ((List.map dGRatio.enc a0).length ≤ (List.map dGRatio.enc a0).length) <|
    k_slices_Compact_api_Ratio_api_Ratio_2 a0 x0 (List.map dGRatio.enc a0) x0 1)
   (k_slices_Compact_api_Ratio_api_Ratio_1 a0 (w64 (x0 + 1))))
  (some (.row 1000 2 0 ((List.map dGRatio.enc a0).length), [(1000, ⟨2, ty_api_Ratio, List.map dGRatio.enc a0, false⟩)]))) = some y) : k_slices_Compact_api_Ratio_api_Ratio_1 a0 x0 = some y :=
  pt_of zT [] (by kernel_rfl) h

theorem t_slices_Compact_api_Ratio_api_Ratio_2 (a0 : List GRatio) (x0 : Int) (x3 : List (List AV)) (x4 : Int) (x5 : Int) {y : AV × Mem} (h : (
  brn (decide (x5 < (↑((List.map dGRatio.enc a0).length - x0.toNat) : Int))) (chk ((0 : Int) ≤ x5) <|
   chk ((x5 : Int) < ((↑((List.map dGRatio.enc a0).length - x0.toNat) : Int))) <|
   elemD dGRatio x3 (0 + x0.toNat + x5.toNat) fun (c6 : GRatio) =>
   chk ((0 : Int) ≤ (w64 (x5 - 1))) <|
   chk ((w64 (x5 - 1) : Int) < ((↑((List.map dGRatio.enc a0).length - x0.toNat) : Int))) <|
   elemD dGRatio x3 (0 + x0.toNat + (w64 (x5 - 1)).toNat) fun (c7 : GRatio) =>
   brn (!(c6.Num == c7.Num && (c6.Den == c7.Den && true))) (chk ((0 : Int) ≤ x5) <|
    chk ((x5 : Int) < ((↑((List.map dGRatio.enc a0).length - x0.toNat) : Int))) <|
    elemD dGRatio x3 (0 + x0.toNat + x5.toNat) fun (c8 : GRatio) =>
    chk ((0 : Int) ≤ x4) <|
    chk ((x4 : Int) < ((↑(List.map dGRatio.enc a0).length : Int))) <|
    elemD dGRatio x3 (0 + x4.toNat) fun (c9 : GRatio) =>
    k_slices_Compact_api_Ratio_api_Ratio_2 a0 x0 (List.set x3 (0 + x4.toNat) (dGRatio.enc c8)) (w64 (x4 + 1)) (w64 (x5 + 1)))
   (k_slices_Compact_api_Ratio_api_Ratio_2 a0 x0 x3 x4 (w64 (x5 + 1))))
  (chk ((0 : Int) ≤ x4) <|
   chk (x4.toNat ≤ (List.map dGRatio.enc a0).length) <|
   chk ((List.map dGRatio.enc a0).length ≤ (List.map dGRatio.enc a0).length) <|
   chk (0 + x4.toNat + ((List.map dGRatio.enc a0).length - x4.toNat) ≤ x3.length) <|
   chk ((0 : Int) ≤ x4) <|
   chk (0 ≤ x4.toNat) <|
   chk (x4.toNat ≤ (List.map dGRatio.enc a0).length) <|
   some (.row 1000 2 (0 + 0) (x4.toNat - 0), [(1000, ⟨2, ty_api_Ratio, ((List.take (0 + x4.toNat) x3) ++ (List.replicate ((List.map dGRatio.enc a0).length - x4.toNat) (dGRatio.enc (⟨0, 0⟩)))) ++ (List.drop (0 + x4.toNat + ((List.map dGRatio.enc a0).length - x4.toNat)) x3), false⟩)]))) = some y) : k_slices_Compact_api_Ratio_api_Ratio_2 a0 x0 x3 x4 x5 = some y :=
  pt_of zT [] (by kernel_rfl) h

theorem e_slices_Compact_api_Ratio_api_Ratio (a0 : List GRatio) {y : AV × Mem} (h : (
  brn (decide ((↑(List.map dGRatio.enc a0).length : Int) < 2)) (some (.row 1000 2 0 ((List.map dGRatio.enc a0).length), [(1000, ⟨2, ty_api_Ratio, List.map dGRatio.enc a0, false⟩)]))
  (k_slices_Compact_api_Ratio_api_Ratio_1 a0 1)) = some y) : cw f_slices_Compact_api_Ratio_api_Ratio [.row 1000 2 0 (List.length (List.map dGRatio.enc a0))] [(1000, ⟨2, ty_api_Ratio, List.map dGRatio.enc a0, false⟩)] = some y :=
  callw_tree R_slices_Compact_api_Ratio_api_Ratio zT [] (by kernel_rfl) (by kernel_rfl) (by kernel_rfl) (by kernel_rfl) (by kernel_rfl) h

theorem e_ratio_Add (a0 : GRatio) (a1 : GRatio) {y : AV × Mem} (h : (
  callD r_ratio_Valid (cw f_ratio_Valid [.agg (dGRatio.enc a0)] []) fun (r0 : Bool) =>
  brn (!r0) (some (.tup [.agg (dGRatio.enc (⟨0, 0⟩)), I 1], []))
  (callD r_ratio_Valid (cw f_ratio_Valid [.agg (dGRatio.enc a1)] []) fun (r1 : Bool) =>
   brn (!r1) (some (.tup [.agg (dGRatio.enc (⟨0, 0⟩)), I 1], []))
   (callD r_ratio_gcd (cw f_ratio_gcd [.v (.int .u64 (wu64 a0.Den)), .v (.int .u64 (wu64 a1.Den))] []) fun (r2 : Int) =>
    chk ((r2 : Int) ≠ 0) <|
    callD r_ratio_signedProduct (cw f_ratio_signedProduct [I a0.Num, .v (.int .u64 (wu64 ((wu64 a1.Den).tdiv r2)))] []) fun (r3 : GratioSigned) =>
    chk ((r2 : Int) ≠ 0) <|
    callD r_ratio_signedProduct (cw f_ratio_signedProduct [I a1.Num, .v (.int .u64 (wu64 ((wu64 a0.Den).tdiv r2)))] []) fun (r4 : GratioSigned) =>
    callD r_ratio_signed_plus (cw f_ratio_signed_plus [.agg (dGratioSigned.enc r3), .agg (dGratioSigned.enc r4)] []) fun (r5 : GratioSigned) =>
    callD r_ratio_wide_mod (cw f_ratio_wide_mod [.agg (dGratioWide.enc r5.abs), .v (.int .u64 r2)] []) fun (r6 : Int) =>
    callD r_ratio_gcd (cw f_ratio_gcd [.v (.int .u64 r6), .v (.int .u64 r2)] []) fun (r7 : Int) =>
    callD r_ratio_wide_over (cw f_ratio_wide_over [.agg (dGratioWide.enc r5.abs), .v (.int .u64 r7)] []) fun (r8 : GratioWide) =>
    chk ((r2 : Int) ≠ 0) <|
    chk ((r7 : Int) ≠ 0) <|
    callD r_ratio_product (cw f_ratio_product [.v (.int .u64 (wu64 ((wu64 a0.Den).tdiv r2))), .v (.int .u64 (wu64 ((wu64 a1.Den).tdiv r7)))] []) fun (r9 : GratioWide) =>
    callD r_ratio_fitted (cw f_ratio_fitted [B r5.neg, .agg (dGratioWide.enc r8), .agg (dGratioWide.enc r9)] []) fun (r10 : GRatio × Int) =>
    some (.tup [.agg (dGRatio.enc r10.fst), I r10.snd], [])))) = some y) : cw f_ratio_Add [.agg (dGRatio.enc a0), .agg (dGRatio.enc a1)] [] = some y :=
  callw_tree R_ratio_Add zT [] (by kernel_rfl) (by kernel_rfl) (by kernel_rfl) (by kernel_rfl) (by kernel_rfl) h

noncomputable def k_conversion_bends_1 (a0 : List GPoint) (x3 : List (List AV)) (x4 : GconversionSteps) (x5 : GRatio) (x6 : Int) : Option (AV × Mem) := pt R_conversion_bends 1 ⟨[(0, .sl 4 (List.map dGPoint.enc a0)), (4, .row 4 4 0 (List.length x3)), (5, .loc 5 1 0 0), (6, .loc 6 2 0 0), (7, I x6)], [(4, ⟨4, ty_api_Point, x3, false⟩), (5, ⟨1, ty_conversion_steps, [dGconversionSteps.enc x4], true⟩), (6, ⟨2, ty_api_Ratio, [dGRatio.enc x5], true⟩)]⟩

theorem t_conversion_bends_1 (a0 : List GPoint) (x3 : List (List AV)) (x4 : GconversionSteps) (x5 : GRatio) (x6 : Int) {y : AV × Mem} (h : (
  brn (decide (w64 (x6 + 1) < (↑(List.map dGPoint.enc a0).length : Int))) (chk ((0 : Int) ≤ x6) <|
   elemD dGPoint (List.map dGPoint.enc a0) x6.toNat fun (c7 : GPoint) =>
   chk ((0 : Int) ≤ (w64 (x6 + 1))) <|
   elemD dGPoint (List.map dGPoint.enc a0) ((w64 (x6 + 1)).toNat) fun (c8 : GPoint) =>
   callD r_conversion_steps_slope (cw f_conversion_steps_slope [.loc 1000 1 0 0, .agg (dGPoint.enc c7), .agg (dGPoint.enc c8)] [(1000, ⟨1, ty_conversion_steps, [dGconversionSteps.enc x4], true⟩)]) fun (r9 : GRatio × GconversionSteps) =>
   brn (!(r9.fst.Num == x5.Num && (r9.fst.Den == x5.Den && true))) (chk ((0 : Int) ≤ x6) <|
    elemD dGPoint (List.map dGPoint.enc a0) x6.toNat fun (c10 : GPoint) =>
    chk (x3.length = x3.length) <|
    chk ((x3.length + 1) * (32 + 1) ≤ 1099511627776) <|
    chk ((x3 ++ [[AV.v (Go.Value.int IntKind.i64 c10.X.Num), AV.v (Go.Value.int IntKind.i64 c10.X.Den), AV.v (Go.Value.int IntKind.i64 c10.Y.Num), AV.v (Go.Value.int IntKind.i64 c10.Y.Den)]]).length = (x3 ++ [[AV.v (Go.Value.int IntKind.i64 c10.X.Num), AV.v (Go.Value.int IntKind.i64 c10.X.Den), AV.v (Go.Value.int IntKind.i64 c10.Y.Num), AV.v (Go.Value.int IntKind.i64 c10.Y.Den)]]).length) <|
    k_conversion_bends_1 a0 (x3 ++ ([dGPoint.enc c10])) r9.snd r9.fst (w64 (x6 + 1)))
   (k_conversion_bends_1 a0 x3 r9.snd r9.fst (w64 (x6 + 1))))
  (brn (x4.e != 0) (some (.tup [.sl 4 (List.map dGPoint.enc []), I x4.e], []))
   (chk (0 + x3.length ≤ x3.length) <|
    some (.tup [.sl 4 (List.take x3.length x3), I 0], [])))) = some y) : k_conversion_bends_1 a0 x3 x4 x5 x6 = some y :=
  pt_of zT [] (by kernel_rfl) h

theorem e_conversion_bends (a0 : List GPoint) {y : AV × Mem} (h : (
  chk ((0 : Int) ≤ 0) <|
  elemD dGPoint (List.map dGPoint.enc a0) (Int.toNat 0) fun (c0 : GPoint) =>
  chk ((0 : Int) ≤ 1) <|
  elemD dGPoint (List.map dGPoint.enc a0) (Int.toNat 1) fun (c1 : GPoint) =>
  callD r_conversion_steps_slope (cw f_conversion_steps_slope [.loc 1000 1 0 0, .agg (dGPoint.enc c0), .agg (dGPoint.enc c1)] [(1000, ⟨1, ty_conversion_steps, [dGconversionSteps.enc ⟨0⟩], true⟩)]) fun (r2 : GRatio × GconversionSteps) =>
  k_conversion_bends_1 a0 [] r2.snd r2.fst 1) = some y) : cw f_conversion_bends [.sl 4 (List.map dGPoint.enc a0)] [] = some y :=
  callw_tree R_conversion_bends zT [] (by kernel_rfl) (by kernel_rfl) (by kernel_rfl) (by kernel_rfl) (by kernel_rfl) h

theorem e_conversion_steps_do_Add (a0 : GconversionSteps) (a2 : GRatio) (a3 : GRatio) {y : AV × Mem} (h : (
  brn (a0.e != 0) (some (.agg (dGRatio.enc (⟨0, 0⟩)), [(1000, ⟨1, ty_conversion_steps, [dGconversionSteps.enc a0], true⟩)]))
  (callD r_ratio_Add (cw f_ratio_Add [.agg (dGRatio.enc a2), .agg (dGRatio.enc a3)] []) fun (r0 : GRatio × Int) =>
   some (.agg (dGRatio.enc r0.fst), [(1000, ⟨1, ty_conversion_steps, [dGconversionSteps.enc ⟨r0.snd⟩], true⟩)]))) = some y) : cw f_conversion_steps_do [.loc 1000 1 0 0, .fn f_ratio_Add [], .agg (dGRatio.enc a2), .agg (dGRatio.enc a3)] [(1000, ⟨1, ty_conversion_steps, [dGconversionSteps.enc a0], true⟩)] = some y :=
  callw_tree R_conversion_steps_do zT [] (by kernel_rfl) (by kernel_rfl) (by kernel_rfl) (by kernel_rfl) (by kernel_rfl) h

theorem e_conversion_steps_do_Sub (a0 : GconversionSteps) (a2 : GRatio) (a3 : GRatio) {y : AV × Mem} (h : (
  brn (a0.e != 0) (some (.agg (dGRatio.enc (⟨0, 0⟩)), [(1000, ⟨1, ty_conversion_steps, [dGconversionSteps.enc a0], true⟩)]))
  (callD r_ratio_Sub (cw f_ratio_Sub [.agg (dGRatio.enc a2), .agg (dGRatio.enc a3)] []) fun (r0 : GRatio × Int) =>
   some (.agg (dGRatio.enc r0.fst), [(1000, ⟨1, ty_conversion_steps, [dGconversionSteps.enc ⟨r0.snd⟩], true⟩)]))) = some y) : cw f_conversion_steps_do [.loc 1000 1 0 0, .fn f_ratio_Sub [], .agg (dGRatio.enc a2), .agg (dGRatio.enc a3)] [(1000, ⟨1, ty_conversion_steps, [dGconversionSteps.enc a0], true⟩)] = some y :=
  callw_tree R_conversion_steps_do zT [] (by kernel_rfl) (by kernel_rfl) (by kernel_rfl) (by kernel_rfl) (by kernel_rfl) h

theorem e_conversion_steps_do_Mul (a0 : GconversionSteps) (a2 : GRatio) (a3 : GRatio) {y : AV × Mem} (h : (
  brn (a0.e != 0) (some (.agg (dGRatio.enc (⟨0, 0⟩)), [(1000, ⟨1, ty_conversion_steps, [dGconversionSteps.enc a0], true⟩)]))
  (callD r_ratio_Mul (cw f_ratio_Mul [.agg (dGRatio.enc a2), .agg (dGRatio.enc a3)] []) fun (r0 : GRatio × Int) =>
   some (.agg (dGRatio.enc r0.fst), [(1000, ⟨1, ty_conversion_steps, [dGconversionSteps.enc ⟨r0.snd⟩], true⟩)]))) = some y) : cw f_conversion_steps_do [.loc 1000 1 0 0, .fn f_ratio_Mul [], .agg (dGRatio.enc a2), .agg (dGRatio.enc a3)] [(1000, ⟨1, ty_conversion_steps, [dGconversionSteps.enc a0], true⟩)] = some y :=
  callw_tree R_conversion_steps_do zT [] (by kernel_rfl) (by kernel_rfl) (by kernel_rfl) (by kernel_rfl) (by kernel_rfl) h

theorem e_conversion_steps_do_Div (a0 : GconversionSteps) (a2 : GRatio) (a3 : GRatio) {y : AV × Mem} (h : (
  brn (a0.e != 0) (some (.agg (dGRatio.enc (⟨0, 0⟩)), [(1000, ⟨1, ty_conversion_steps, [dGconversionSteps.enc a0], true⟩)]))
  (callD r_ratio_Div (cw f_ratio_Div [.agg (dGRatio.enc a2), .agg (dGRatio.enc a3)] []) fun (r0 : GRatio × Int) =>
   some (.agg (dGRatio.enc r0.fst), [(1000, ⟨1, ty_conversion_steps, [dGconversionSteps.enc ⟨r0.snd⟩], true⟩)]))) = some y) : cw f_conversion_steps_do [.loc 1000 1 0 0, .fn f_ratio_Div [], .agg (dGRatio.enc a2), .agg (dGRatio.enc a3)] [(1000, ⟨1, ty_conversion_steps, [dGconversionSteps.enc a0], true⟩)] = some y :=
  callw_tree R_conversion_steps_do zT [] (by kernel_rfl) (by kernel_rfl) (by kernel_rfl) (by kernel_rfl) (by kernel_rfl) h

theorem e_ratio_Sub (a0 : GRatio) (a1 : GRatio) {y : AV × Mem} (h : (
  callD r_ratio_Valid (cw f_ratio_Valid [.agg (dGRatio.enc a0)] []) fun (r0 : Bool) =>
  brn (!r0) (some (.tup [.agg (dGRatio.enc (⟨0, 0⟩)), I 1], []))
  (callD r_ratio_Valid (cw f_ratio_Valid [.agg (dGRatio.enc a1)] []) fun (r1 : Bool) =>
   brn (!r1) (some (.tup [.agg (dGRatio.enc (⟨0, 0⟩)), I 1], []))
   (callD r_ratio_Add (cw f_ratio_Add [.agg (dGRatio.enc a0), .agg (dGRatio.enc (⟨w64 (0 - a1.Num), a1.Den⟩))] []) fun (r2 : GRatio × Int) =>
    some (.tup [.agg (dGRatio.enc r2.fst), I r2.snd], [])))) = some y) : cw f_ratio_Sub [.agg (dGRatio.enc a0), .agg (dGRatio.enc a1)] [] = some y :=
  callw_tree R_ratio_Sub zT [] (by kernel_rfl) (by kernel_rfl) (by kernel_rfl) (by kernel_rfl) (by kernel_rfl) h

theorem e_conversion_pointAt (a0 : List GPoint) (a1 : GRatio) {y : AV × Mem} (h : (
  callD r_conversion_eval (cw f_conversion_eval [.sl 4 (List.map dGPoint.enc a0), .agg (dGRatio.enc a1)] []) fun (r0 : GRatio × Int) =>
  brn (r0.snd != 0) (some (.tup [.agg (dGPoint.enc (⟨⟨0, 0⟩, ⟨0, 0⟩⟩)), I r0.snd], []))
  (some (.tup [.agg (dGPoint.enc (⟨⟨a1.Num, a1.Den⟩, ⟨r0.fst.Num, r0.fst.Den⟩⟩)), I 0], []))) = some y) : cw f_conversion_pointAt [.sl 4 (List.map dGPoint.enc a0), .agg (dGRatio.enc a1)] [] = some y :=
  callw_tree R_conversion_pointAt zT [] (by kernel_rfl) (by kernel_rfl) (by kernel_rfl) (by kernel_rfl) (by kernel_rfl) h

theorem e_ratio_Less (a0 : GRatio) (a1 : GRatio) {y : AV × Mem} (h : (
  callD r_ratio_Compare (cw f_ratio_Compare [.agg (dGRatio.enc a0), .agg (dGRatio.enc a1)] []) fun (r0 : Int) =>
  some (B (r0 == -1), [])) = some y) : cw f_ratio_Less [.agg (dGRatio.enc a0), .agg (dGRatio.enc a1)] [] = some y :=
  callw_tree R_ratio_Less zT [] (by kernel_rfl) (by kernel_rfl) (by kernel_rfl) (by kernel_rfl) (by kernel_rfl) h

noncomputable def k_ratio_gcd_1 (x0 : Int) (x1 : Int) : Option (AV × Mem) := pt R_ratio_gcd 1 ⟨[(0, .v (.int .u64 x0)), (1, .v (.int .u64 x1))], []⟩

theorem t_ratio_gcd_1 (x0 : Int) (x1 : Int) {y : AV × Mem} (h : (
  brn (x1 != 0) (chk ((x1 : Int) ≠ 0) <|
   k_ratio_gcd_1 x1 (x0.tmod x1))
  (some (.v (.int .u64 x0), []))) = some y) : k_ratio_gcd_1 x0 x1 = some y :=
  pt_of zT [] (by kernel_rfl) h

theorem e_ratio_gcd (a0 : Int) (a1 : Int) {y : AV × Mem} (h : (
  k_ratio_gcd_1 a0 a1) = some y) : cw f_ratio_gcd [.v (.int .u64 a0), .v (.int .u64 a1)] [] = some y :=
  callw_tree R_ratio_gcd zT [] (by kernel_rfl) (by kernel_rfl) (by kernel_rfl) (by kernel_rfl) (by kernel_rfl) h

theorem e_ratio_magnitude (a0 : Int) {y : AV × Mem} (h : (
  brn (decide (a0 < 0)) (some (.v (.int .u64 (wu64 (0 - wu64 a0))), []))
  (some (.v (.int .u64 (wu64 a0)), []))) = some y) : cw f_ratio_magnitude [I a0] [] = some y :=
  callw_tree R_ratio_magnitude zT [] (by kernel_rfl) (by kernel_rfl) (by kernel_rfl) (by kernel_rfl) (by kernel_rfl) h

noncomputable def k_sort_Search_eval_1 (ax : GRatio) (al : List GPoint) (x0 : Int) (x1 : Int) : Option (AV × Mem) := pt R_sort_Search 1 ⟨[(1, .fn f_conversion_eval_1 [.fp [I ax.Num, I ax.Den], .fp [.sl 4 (List.map dGPoint.enc al)]]), (5, I x0), (6, I x1)], []⟩

theorem t_sort_Search_eval_1 (ax : GRatio) (al : List GPoint) (x0 : Int) (x1 : Int) {y : AV × Mem} (h : (
  brn (decide (x0 < x1)) (chk ((0 : Int) ≤ 1) <|
   callD r_conversion_eval_1 (cw f_conversion_eval_1 [I (w64 ((wu64 (w64 (x0 + x1))).fdiv (2 ^ Min.min (Int.toNat 1) 64))), .fp [I ax.Num, I ax.Den], .fp [.sl 4 (List.map dGPoint.enc al)]] []) fun (r2 : Bool) =>
   brn (!r2) (k_sort_Search_eval_1 ax al (w64 (w64 ((wu64 (w64 (x0 + x1))).fdiv (2 ^ Min.min (Int.toNat 1) 64)) + 1)) x1)
   (k_sort_Search_eval_1 ax al x0 (w64 ((wu64 (w64 (x0 + x1))).fdiv (2 ^ Min.min (Int.toNat 1) 64)))))
  (some (I x0, []))) = some y) : k_sort_Search_eval_1 ax al x0 x1 = some y :=
  pt_of zT [] (by kernel_rfl) h

theorem e_sort_Search_eval (a0 : Int) (ax : GRatio) (al : List GPoint) {y : AV × Mem} (h : (
  k_sort_Search_eval_1 ax al 0 a0) = some y) : cw f_sort_Search [I a0, .fn f_conversion_eval_1 [.fp [I ax.Num, I ax.Den], .fp [.sl 4 (List.map dGPoint.enc al)]]] [] = some y :=
  callw_tree R_sort_Search zT [] (by kernel_rfl) (by kernel_rfl) (by kernel_rfl) (by kernel_rfl) (by kernel_rfl) h

theorem e_conversion_eval_1 (a0 : Int) (ax : GRatio) (al : List GPoint) {y : AV × Mem} (h : (
  chk ((0 : Int) ≤ (w64 (a0 + 1))) <|
  elemD dGPoint (List.map dGPoint.enc al) ((w64 (a0 + 1)).toNat) fun (c0 : GPoint) =>
  callD r_ratio_Compare (cw f_ratio_Compare [.agg (dGRatio.enc ax), .agg (dGRatio.enc c0.X)] []) fun (r1 : Int) =>
  some (B (decide (r1 ≤ 0)), [])) = some y) : cw f_conversion_eval_1 [I a0, .fp [I ax.Num, I ax.Den], .fp [.sl 4 (List.map dGPoint.enc al)]] [] = some y :=
  callw_tree R_conversion_eval_1 zT [] (by kernel_rfl) (by kernel_rfl) (by kernel_rfl) (by kernel_rfl) (by kernel_rfl) h

end Go.Proofs.Ytiienbfdcgipnaa
