/- What the functions compute, between two cut points: printed by a program, checked by the kernel. -/
import Derived.Test.YthhedegaeeadhaaAnn
namespace Go.Proofs.Ythhedegaeeadhaa
open Go.Ab
set_option maxRecDepth 100000
set_option linter.unusedVariables false

noncomputable def k_distribution_Deviation_1 (a0 : GDistribution) (r0 : Int × Int) (r1 : Int) (x2 : Int) (x3 : Int) : Option (AV × Mem) := pt R_distribution_Deviation 1 ⟨[(2, .loc 2 2 0 0), (4, I r0.fst), (6, I r1), (7, I x2), (23, .sl 1 (List.map dI_i64.enc a0.Counts)), (24, I ((↑(List.map dI_i64.enc a0.Counts).length : Int))), (25, I x3)], [(2, ⟨2, ty_api_Ratio, [dGRatio.enc (⟨0, 0⟩)], true⟩)]⟩

theorem t_distribution_Deviation_1 (a0 : GDistribution) (r0 : Int × Int) (r1 : Int) (x2 : Int) (x3 : Int) {y : AV × Mem} (h : (
  brn (decide (x3 < (↑(List.map dI_i64.enc a0.Counts).length : Int))) (chk ((0 : Int) ≤ x3) <|
   elemD dI_i64 (List.map dI_i64.enc a0.Counts) x3.toNat fun (c4 : Int) =>
   k_distribution_Deviation_1 a0 r0 r1 (w64 (x2 + w64 (c4 * if w64 (0 - w64 (w64 (x3 * r0.fst) - r1)) > w64 (w64 (x3 * r0.fst) - r1) then w64 (0 - w64 (w64 (x3 * r0.fst) - r1)) else w64 (w64 (x3 * r0.fst) - r1)))) (w64 (x3 + 1)))
  (callD r_ratio_New (cw f_ratio_New [I x2, I (w64 (r0.fst * r0.fst))] []) fun (r5 : GRatio × Int) =>
   some (.tup [.agg (dGRatio.enc r5.fst), I r5.snd], []))) = some y) : k_distribution_Deviation_1 a0 r0 r1 x2 x3 = some y :=
  pt_of zT [] (by kernel_rfl) h

theorem e_distribution_Deviation (a0 : GDistribution) {y : AV × Mem} (h : (
  callD r_distribution_check (cw f_distribution_check [.agg (dGDistribution.enc a0)] []) fun (r0 : Int × Int) =>
  brn (r0.snd != 0) (some (.tup [.agg (dGRatio.enc (⟨0, 0⟩)), I r0.snd], []))
  (callD r_distribution_sumOfScores (cw f_distribution_sumOfScores [.agg (dGDistribution.enc a0)] []) fun (r1 : Int) =>
   k_distribution_Deviation_1 a0 r0 r1 0 0)) = some y) : cw f_distribution_Deviation [.agg (dGDistribution.enc a0)] [] = some y :=
  callw_tree R_distribution_Deviation zT [] (by kernel_rfl) (by kernel_rfl) (by kernel_rfl) (by kernel_rfl) (by kernel_rfl) h

theorem e_ratio_Div (a0 : GRatio) (a1 : GRatio) {y : AV × Mem} (h : (
  callD r_ratio_Valid (cw f_ratio_Valid [.agg (dGRatio.enc a0)] []) fun (r0 : Bool) =>
  brn (!r0) (some (.tup [.agg (dGRatio.enc (⟨0, 0⟩)), I 1], []))
  (callD r_ratio_Valid (cw f_ratio_Valid [.agg (dGRatio.enc a1)] []) fun (r1 : Bool) =>
   brn (!r1) (some (.tup [.agg (dGRatio.enc (⟨0, 0⟩)), I 1], []))
   (brn (a1.Num == 0) (some (.tup [.agg (dGRatio.enc (⟨0, 0⟩)), I 2], []))
    (brn (decide (a1.Num < 0)) (callD r_ratio_Mul (cw f_ratio_Mul [.agg (dGRatio.enc a0), .agg (dGRatio.enc (⟨w64 (0 - a1.Den), w64 (0 - a1.Num)⟩))] []) fun (r2 : GRatio × Int) =>
      some (.tup [.agg (dGRatio.enc r2.fst), I r2.snd], []))
     (callD r_ratio_Mul (cw f_ratio_Mul [.agg (dGRatio.enc a0), .agg (dGRatio.enc (⟨a1.Den, a1.Num⟩))] []) fun (r3 : GRatio × Int) =>
      some (.tup [.agg (dGRatio.enc r3.fst), I r3.snd], [])))))) = some y) : cw f_ratio_Div [.agg (dGRatio.enc a0), .agg (dGRatio.enc a1)] [] = some y :=
  callw_tree R_ratio_Div zT [] (by kernel_rfl) (by kernel_rfl) (by kernel_rfl) (by kernel_rfl) (by kernel_rfl) h

theorem e_ref32_wrong (a0 : GDistribution) {y : AV × Mem} (h : (
  callD r_ref32_Valid (cw f_ref32_Valid [.agg (dGDistribution.enc a0)] []) fun (r0 : Bool) =>
  brn (!r0) (some (I 1, []))
  (callD r_ref32_Count (cw f_ref32_Count [.agg (dGDistribution.enc a0)] []) fun (r1 : Int) =>
   brn (r1 == 0) (some (I 10, []))
   (some (I 0, [])))) = some y) : cw f_ref32_wrong [.agg (dGDistribution.enc a0)] [] = some y :=
  callw_tree R_ref32_wrong zT [] (by kernel_rfl) (by kernel_rfl) (by kernel_rfl) (by kernel_rfl) (by kernel_rfl) h

noncomputable def k_ref32_sum_1 (a0 : GDistribution) (x0 : Int) (x1 : Int) : Option (AV × Mem) := pt R_ref32_sum 1 ⟨[(1, .loc 1 1 0 0), (3, I x0), (4, I x1)], [(1, ⟨1, ty_api_Distribution, [dGDistribution.enc a0], true⟩)]⟩

theorem t_ref32_sum_1 (a0 : GDistribution) (x0 : Int) (x1 : Int) {y : AV × Mem} (h : (
  brn (decide (x1 < (↑(List.map dI_i64.enc a0.Counts).length : Int))) (chk ((0 : Int) ≤ x1) <|
   elemD dI_i64 (List.map dI_i64.enc a0.Counts) x1.toNat fun (c2 : Int) =>
   k_ref32_sum_1 a0 (w64 (x0 + w64 (x1 * c2))) (w64 (x1 + 1)))
  (some (I x0, []))) = some y) : k_ref32_sum_1 a0 x0 x1 = some y :=
  pt_of zT [] (by kernel_rfl) h

theorem e_ref32_sum (a0 : GDistribution) {y : AV × Mem} (h : (
  k_ref32_sum_1 a0 0 0) = some y) : cw f_ref32_sum [.agg (dGDistribution.enc a0)] [] = some y :=
  callw_tree R_ref32_sum zT [] (by kernel_rfl) (by kernel_rfl) (by kernel_rfl) (by kernel_rfl) (by kernel_rfl) h

theorem e_ref01_Valid (a0 : GRatio) {y : AV × Mem} (h : (
  brn (decide (a0.Den < 1)) (some (B false, []))
  (brn (decide (1152921504606846976 < a0.Den)) (some (B false, []))
   (brn (decide (a0.Num < -1152921504606846976)) (some (B false, []))
    (brn (decide (1152921504606846976 < a0.Num)) (some (B false, []))
     (callD r_ref01_Size (cw f_ref01_Size [I a0.Num] []) fun (r0 : Int) =>
      callD r_ref01_Size (cw f_ref01_Size [I a0.Den] []) fun (r1 : Int) =>
      callD r_ref01_Divisor (cw f_ref01_Divisor [.agg (dGref01Wide.enc (⟨0, r0⟩)), .agg (dGref01Wide.enc (⟨0, r1⟩))] []) fun (r2 : Gref01Wide) =>
      some (B (r2.Hi == 0 && (r2.Lo == 1 && true)), [])))))) = some y) : cw f_ref01_Valid [.agg (dGRatio.enc a0)] [] = some y :=
  callw_tree R_ref01_Valid zT [] (by kernel_rfl) (by kernel_rfl) (by kernel_rfl) (by kernel_rfl) (by kernel_rfl) h

theorem e_ref01_total (a0 : Bool) (a1 : Gref01Wide) (a2 : Bool) (a3 : Gref01Wide) {y : AV × Mem} (h : (
  brn (a0 == a2) (callD r_ref01_Plus (cw f_ref01_Plus [.agg (dGref01Wide.enc a1), .agg (dGref01Wide.enc a3)] []) fun (r0 : Gref01Wide) =>
   some (.tup [B a0, .agg (dGref01Wide.enc r0)], []))
  (callD r_ref01_Order (cw f_ref01_Order [.agg (dGref01Wide.enc a1), .agg (dGref01Wide.enc a3)] []) fun (r1 : Int) =>
   brn (decide (0 ≤ r1)) (callD r_ref01_Minus (cw f_ref01_Minus [.agg (dGref01Wide.enc a1), .agg (dGref01Wide.enc a3)] []) fun (r2 : Gref01Wide) =>
    some (.tup [B a0, .agg (dGref01Wide.enc r2)], []))
   (callD r_ref01_Minus (cw f_ref01_Minus [.agg (dGref01Wide.enc a3), .agg (dGref01Wide.enc a1)] []) fun (r3 : Gref01Wide) =>
    some (.tup [B a2, .agg (dGref01Wide.enc r3)], [])))) = some y) : cw f_ref01_total [B a0, .agg (dGref01Wide.enc a1), B a2, .agg (dGref01Wide.enc a3)] [] = some y :=
  callw_tree R_ref01_total zT [] (by kernel_rfl) (by kernel_rfl) (by kernel_rfl) (by kernel_rfl) (by kernel_rfl) h

theorem e_ref01_Product (a0 : Int) (a1 : Int) {y : AV × Mem} (h : (
  callD r_bits_Mul64 (cw f_bits_Mul64 [.v (.int .u64 a0), .v (.int .u64 a1)] []) fun (r0 : Int × Int) =>
  some (.agg (dGref01Wide.enc (⟨r0.fst, r0.snd⟩)), [])) = some y) : cw f_ref01_Product [.v (.int .u64 a0), .v (.int .u64 a1)] [] = some y :=
  callw_tree R_ref01_Product zT [] (by kernel_rfl) (by kernel_rfl) (by kernel_rfl) (by kernel_rfl) (by kernel_rfl) h

theorem e_equating_isScore (a0 : Int) {y : AV × Mem} (h : (
  brn (decide (0 ≤ a0)) (some (B (decide (a0 ≤ 200)), []))
  (some (B false, []))) = some y) : cw f_equating_isScore [I a0] [] = some y :=
  callw_tree R_equating_isScore zT [] (by kernel_rfl) (by kernel_rfl) (by kernel_rfl) (by kernel_rfl) (by kernel_rfl) h

theorem e_conversion_Convert (a0 : GCurve) (a1 : Int) (a2 : Int) {y : AV × Mem} (h : (
  brn (decide (a1 < 0)) (some (.tup [I 0, I 2], []))
  (brn (decide (200 < a1)) (some (.tup [I 0, I 2], []))
   (brn (decide (a2 < 0)) (some (.tup [I 0, I 2], []))
    (brn (decide (200 < a2)) (some (.tup [I 0, I 2], []))
     (callD r_conversion_whole (cw f_conversion_whole [I a1] []) fun (r0 : GRatio) =>
      callD r_conversion_Eval (cw f_conversion_Eval [.agg (dGCurve.enc a0), .agg (dGRatio.enc r0)] []) fun (r1 : GRatio × Int) =>
      brn (r1.snd != 0) (some (.tup [I 0, I r1.snd], []))
      (callD r_ratio_Round (cw f_ratio_Round [.agg (dGRatio.enc r1.fst)] []) fun (r2 : Int) =>
       some (.tup [I (if a2 < if 0 > r2 then 0 else r2 then a2 else if 0 > r2 then 0 else r2), I 0], []))))))) = some y) : cw f_conversion_Convert [.agg (dGCurve.enc a0), I a1, I a2] [] = some y :=
  callw_tree R_conversion_Convert zT [] (by kernel_rfl) (by kernel_rfl) (by kernel_rfl) (by kernel_rfl) (by kernel_rfl) h

noncomputable def k_conversion_normal_1009 (a0 : List GPoint) (r0 : (List GPoint) × Int) (r5 : GRatio × GconversionSteps) (r8 : GRatio × GconversionSteps) : Option (AV × Mem) := pt R_conversion_normal 1009 ⟨[(0, .sl 4 (List.map dGPoint.enc a0)), (2, .loc 2 1 0 0), (4, .sl 4 (List.map dGPoint.enc r0.fst)), (6, .loc 6 1 0 0), (7, .loc 7 2 0 0), (8, .loc 8 2 0 0)], [(2, ⟨1, ty_api_Curve, [[.v (.slice none 0 0)]], true⟩), (6, ⟨1, ty_conversion_steps, [dGconversionSteps.enc r8.snd], true⟩), (7, ⟨2, ty_api_Ratio, [dGRatio.enc r5.fst], true⟩), (8, ⟨2, ty_api_Ratio, [dGRatio.enc r8.fst], true⟩)]⟩

noncomputable def k_conversion_normal_1009v1 (a0 : List GPoint) (r0 : (List GPoint) × Int) (r1 : GRatio) (r2 : GRatio) : Option (AV × Mem) := pt R_conversion_normal 1009 ⟨[(0, .sl 4 (List.map dGPoint.enc a0)), (2, .loc 2 1 0 0), (4, .sl 4 (List.map dGPoint.enc r0.fst)), (6, .loc 6 1 0 0), (7, .loc 7 2 0 0), (8, .loc 8 2 0 0), (24, B false)], [(2, ⟨1, ty_api_Curve, [[.v (.slice none 0 0)]], true⟩), (6, ⟨1, ty_conversion_steps, [dGconversionSteps.enc ⟨0⟩], true⟩), (7, ⟨2, ty_api_Ratio, [dGRatio.enc r1], true⟩), (8, ⟨2, ty_api_Ratio, [dGRatio.enc r2], true⟩)]⟩

theorem t_conversion_normal_1009 (a0 : List GPoint) (r0 : (List GPoint) × Int) (r5 : GRatio × GconversionSteps) (r8 : GRatio × GconversionSteps) {y : AV × Mem} (h : (
  brn (r8.snd.e != 0) (some (.tup [.agg (dGCurve.enc ⟨[]⟩), I r8.snd.e], []))
  (callD r_conversion_pointAt (cw f_conversion_pointAt [.sl 4 (List.map dGPoint.enc a0), .agg (dGRatio.enc r5.fst)] []) fun (r9 : GPoint × Int) =>
   brn (r9.snd != 0) (some (.tup [.agg (dGCurve.enc ⟨[]⟩), I r9.snd], []))
   (callD r_conversion_pointAt (cw f_conversion_pointAt [.sl 4 (List.map dGPoint.enc a0), .agg (dGRatio.enc r8.fst)] []) fun (r10 : GPoint × Int) =>
    brn (r10.snd != 0) (some (.tup [.agg (dGCurve.enc ⟨[]⟩), I r10.snd], []))
    (brn (decide (410 < w64 ((↑(List.map dGPoint.enc r0.fst).length : Int) + 2))) (some (.tup [.agg (dGCurve.enc ⟨[]⟩), I 3], []))
     (chk (1 = 1) <|
      chk ((1 + (List.map dGPoint.enc r0.fst).length) * (32 + 1) ≤ 1099511627776) <|
      chk (([[AV.v (Go.Value.int IntKind.i64 r9.fst.X.Num), AV.v (Go.Value.int IntKind.i64 r9.fst.X.Den), AV.v (Go.Value.int IntKind.i64 r9.fst.Y.Num), AV.v (Go.Value.int IntKind.i64 r9.fst.Y.Den)]] ++ List.map dGPoint.enc r0.fst).length = ([[AV.v (Go.Value.int IntKind.i64 r9.fst.X.Num), AV.v (Go.Value.int IntKind.i64 r9.fst.X.Den), AV.v (Go.Value.int IntKind.i64 r9.fst.Y.Num), AV.v (Go.Value.int IntKind.i64 r9.fst.Y.Den)]] ++ List.map dGPoint.enc r0.fst).length) <|
      chk ((([[AV.v (Go.Value.int IntKind.i64 r9.fst.X.Num), AV.v (Go.Value.int IntKind.i64 r9.fst.X.Den), AV.v (Go.Value.int IntKind.i64 r9.fst.Y.Num), AV.v (Go.Value.int IntKind.i64 r9.fst.Y.Den)]] ++ List.map dGPoint.enc r0.fst).length + 1) * (32 + 1) ≤ 1099511627776) <|
      chk (0 + ([[AV.v (Go.Value.int IntKind.i64 r9.fst.X.Num), AV.v (Go.Value.int IntKind.i64 r9.fst.X.Den), AV.v (Go.Value.int IntKind.i64 r9.fst.Y.Num), AV.v (Go.Value.int IntKind.i64 r9.fst.Y.Den)]] ++ List.map dGPoint.enc r0.fst ++ [[AV.v (Go.Value.int IntKind.i64 r10.fst.X.Num), AV.v (Go.Value.int IntKind.i64 r10.fst.X.Den), AV.v (Go.Value.int IntKind.i64 r10.fst.Y.Num), AV.v (Go.Value.int IntKind.i64 r10.fst.Y.Den)]]).length ≤ ([[AV.v (Go.Value.int IntKind.i64 r9.fst.X.Num), AV.v (Go.Value.int IntKind.i64 r9.fst.X.Den), AV.v (Go.Value.int IntKind.i64 r9.fst.Y.Num), AV.v (Go.Value.int IntKind.i64 r9.fst.Y.Den)]] ++ List.map dGPoint.enc r0.fst ++ [[AV.v (Go.Value.int IntKind.i64 r10.fst.X.Num), AV.v (Go.Value.int IntKind.i64 r10.fst.X.Den), AV.v (Go.Value.int IntKind.i64 r10.fst.Y.Num), AV.v (Go.Value.int IntKind.i64 r10.fst.Y.Den)]]).length) <|
      some (.tup [.agg [.sl 4 (List.take (([[AV.v (Go.Value.int IntKind.i64 r9.fst.X.Num), AV.v (Go.Value.int IntKind.i64 r9.fst.X.Den), AV.v (Go.Value.int IntKind.i64 r9.fst.Y.Num), AV.v (Go.Value.int IntKind.i64 r9.fst.Y.Den)]] ++ List.map dGPoint.enc r0.fst ++ [[AV.v (Go.Value.int IntKind.i64 r10.fst.X.Num), AV.v (Go.Value.int IntKind.i64 r10.fst.X.Den), AV.v (Go.Value.int IntKind.i64 r10.fst.Y.Num), AV.v (Go.Value.int IntKind.i64 r10.fst.Y.Den)]]).length) ((([[I r9.fst.X.Num, I r9.fst.X.Den, I r9.fst.Y.Num, I r9.fst.Y.Den]]) ++ (List.map dGPoint.enc r0.fst)) ++ ([[I r10.fst.X.Num, I r10.fst.X.Den, I r10.fst.Y.Num, I r10.fst.Y.Den]])))], I 0], [])))))) = some y) : k_conversion_normal_1009 a0 r0 r5 r8 = some y :=
  pt_of zT [9] (by kernel_rfl) h

theorem t_conversion_normal_1009v1 (a0 : List GPoint) (r0 : (List GPoint) × Int) (r1 : GRatio) (r2 : GRatio) {y : AV × Mem} (h : (
  callD r_conversion_pointAt (cw f_conversion_pointAt [.sl 4 (List.map dGPoint.enc a0), .agg (dGRatio.enc r1)] []) fun (r11 : GPoint × Int) =>
  brn (r11.snd != 0) (some (.tup [.agg (dGCurve.enc ⟨[]⟩), I r11.snd], []))
  (callD r_conversion_pointAt (cw f_conversion_pointAt [.sl 4 (List.map dGPoint.enc a0), .agg (dGRatio.enc r2)] []) fun (r12 : GPoint × Int) =>
   brn (r12.snd != 0) (some (.tup [.agg (dGCurve.enc ⟨[]⟩), I r12.snd], []))
   (brn (decide (410 < w64 ((↑(List.map dGPoint.enc r0.fst).length : Int) + 2))) (some (.tup [.agg (dGCurve.enc ⟨[]⟩), I 3], []))
    (chk (1 = 1) <|
     chk ((1 + (List.map dGPoint.enc r0.fst).length) * (32 + 1) ≤ 1099511627776) <|
     chk (([[AV.v (Go.Value.int IntKind.i64 r11.fst.X.Num), AV.v (Go.Value.int IntKind.i64 r11.fst.X.Den), AV.v (Go.Value.int IntKind.i64 r11.fst.Y.Num), AV.v (Go.Value.int IntKind.i64 r11.fst.Y.Den)]] ++ List.map dGPoint.enc r0.fst).length = ([[AV.v (Go.Value.int IntKind.i64 r11.fst.X.Num), AV.v (Go.Value.int IntKind.i64 r11.fst.X.Den), AV.v (Go.Value.int IntKind.i64 r11.fst.Y.Num), AV.v (Go.Value.int IntKind.i64 r11.fst.Y.Den)]] ++ List.map dGPoint.enc r0.fst).length) <|
     chk ((([[AV.v (Go.Value.int IntKind.i64 r11.fst.X.Num), AV.v (Go.Value.int IntKind.i64 r11.fst.X.Den), AV.v (Go.Value.int IntKind.i64 r11.fst.Y.Num), AV.v (Go.Value.int IntKind.i64 r11.fst.Y.Den)]] ++ List.map dGPoint.enc r0.fst).length + 1) * (32 + 1) ≤ 1099511627776) <|
     chk (0 + ([[AV.v (Go.Value.int IntKind.i64 r11.fst.X.Num), AV.v (Go.Value.int IntKind.i64 r11.fst.X.Den), AV.v (Go.Value.int IntKind.i64 r11.fst.Y.Num), AV.v (Go.Value.int IntKind.i64 r11.fst.Y.Den)]] ++ List.map dGPoint.enc r0.fst ++ [[AV.v (Go.Value.int IntKind.i64 r12.fst.X.Num), AV.v (Go.Value.int IntKind.i64 r12.fst.X.Den), AV.v (Go.Value.int IntKind.i64 r12.fst.Y.Num), AV.v (Go.Value.int IntKind.i64 r12.fst.Y.Den)]]).length ≤ ([[AV.v (Go.Value.int IntKind.i64 r11.fst.X.Num), AV.v (Go.Value.int IntKind.i64 r11.fst.X.Den), AV.v (Go.Value.int IntKind.i64 r11.fst.Y.Num), AV.v (Go.Value.int IntKind.i64 r11.fst.Y.Den)]] ++ List.map dGPoint.enc r0.fst ++ [[AV.v (Go.Value.int IntKind.i64 r12.fst.X.Num), AV.v (Go.Value.int IntKind.i64 r12.fst.X.Den), AV.v (Go.Value.int IntKind.i64 r12.fst.Y.Num), AV.v (Go.Value.int IntKind.i64 r12.fst.Y.Den)]]).length) <|
     some (.tup [.agg [.sl 4 (List.take (([[AV.v (Go.Value.int IntKind.i64 r11.fst.X.Num), AV.v (Go.Value.int IntKind.i64 r11.fst.X.Den), AV.v (Go.Value.int IntKind.i64 r11.fst.Y.Num), AV.v (Go.Value.int IntKind.i64 r11.fst.Y.Den)]] ++ List.map dGPoint.enc r0.fst ++ [[AV.v (Go.Value.int IntKind.i64 r12.fst.X.Num), AV.v (Go.Value.int IntKind.i64 r12.fst.X.Den), AV.v (Go.Value.int IntKind.i64 r12.fst.Y.Num), AV.v (Go.Value.int IntKind.i64 r12.fst.Y.Den)]]).length) ((([[I r11.fst.X.Num, I r11.fst.X.Den, I r11.fst.Y.Num, I r11.fst.Y.Den]]) ++ (List.map dGPoint.enc r0.fst)) ++ ([[I r12.fst.X.Num, I r12.fst.X.Den, I r12.fst.Y.Num, I r12.fst.Y.Den]])))], I 0], []))))) = some y) : k_conversion_normal_1009v1 a0 r0 r1 r2 = some y :=
  pt_of zT [9] (by kernel_rfl) h

theorem e_conversion_normal (a0 : List GPoint) {y : AV × Mem} (h : (
  callD r_conversion_bends (cw f_conversion_bends [.sl 4 (List.map dGPoint.enc a0)] []) fun (r0 : (List GPoint) × Int) =>
  brn (r0.snd != 0) (some (.tup [.agg (dGCurve.enc ⟨[]⟩), I r0.snd], []))
  (callD r_conversion_whole (cw f_conversion_whole [I 0] []) fun (r1 : GRatio) =>
   callD r_conversion_whole (cw f_conversion_whole [I 1] []) fun (r2 : GRatio) =>
   brn (decide (0 < (↑(List.map dGPoint.enc r0.fst).length : Int))) (chk ((0 : Int) ≤ 0) <|
    elemD dGPoint (List.map dGPoint.enc r0.fst) (Int.toNat 0) fun (c3 : GPoint) =>
    callD r_conversion_whole (cw f_conversion_whole [I 1] []) fun (r4 : GRatio) =>
    callD r_conversion_steps_do (cw f_conversion_steps_do [.loc 1000 1 0 0, .fn f_ratio_Sub [], .agg (dGRatio.enc c3.X), .agg (dGRatio.enc r4)] [(1000, ⟨1, ty_conversion_steps, [dGconversionSteps.enc ⟨0⟩], true⟩)]) fun (r5 : GRatio × GconversionSteps) =>
    chk ((0 : Int) ≤ (w64 ((↑(List.map dGPoint.enc r0.fst).length : Int) - 1))) <|
    elemD dGPoint (List.map dGPoint.enc r0.fst) ((w64 ((↑(List.map dGPoint.enc r0.fst).length : Int) - 1)).toNat) fun (c6 : GPoint) =>
    callD r_conversion_whole (cw f_conversion_whole [I 1] []) fun (r7 : GRatio) =>
    callD r_conversion_steps_do (cw f_conversion_steps_do [.loc 1000 1 0 0, .fn f_ratio_Add [], .agg (dGRatio.enc c6.X), .agg (dGRatio.enc r7)] [(1000, ⟨1, ty_conversion_steps, [dGconversionSteps.enc r5.snd], true⟩)]) fun (r8 : GRatio × GconversionSteps) =>
    k_conversion_normal_1009 a0 r0 r5 r8)
   (k_conversion_normal_1009v1 a0 r0 r1 r2))) = some y) : cw f_conversion_normal [.sl 4 (List.map dGPoint.enc a0)] [] = some y :=
  callw_tree R_conversion_normal zT [9] (by kernel_rfl) (by kernel_rfl) (by kernel_rfl) (by kernel_rfl) (by kernel_rfl) h

noncomputable def k_conversion_exchanged_1 (a0 : List GPoint) (x0 : List (List AV)) (x1 : Int) : Option (AV × Mem) := pt R_conversion_exchanged 1 ⟨[(3, .row 8 4 0 ((List.replicate (↑(List.map dGPoint.enc a0).length : Int).toNat (AV.v (Go.Value.int IntKind.i64 0) :: AV.v (Go.Value.int IntKind.i64 0) :: AV.v (Go.Value.int IntKind.i64 0) :: AV.v (Go.Value.int IntKind.i64 0) :: List.map AV.v [])).length)), (9, .sl 4 (List.map dGPoint.enc a0)), (10, I ((↑(List.map dGPoint.enc a0).length : Int))), (11, I x1)], [(8, ⟨4, ty_api_Point, x0, false⟩)]⟩

theorem t_conversion_exchanged_1 (a0 : List GPoint) (x0 : List (List AV)) (x1 : Int) {y : AV × Mem} (h : (
  brn (decide (x1 < (↑(List.map dGPoint.enc a0).length : Int))) (chk ((0 : Int) ≤ x1) <|
   elemD dGPoint (List.map dGPoint.enc a0) x1.toNat fun (c2 : GPoint) =>
   chk ((0 : Int) ≤ x1) <|
   chk ((x1 : Int) < ((↑(List.replicate (↑(List.map dGPoint.enc a0).length : Int).toNat (AV.v (Go.Value.int IntKind.i64 0) :: AV.v (Go.Value.int IntKind.i64 0) :: AV.v (Go.Value.int IntKind.i64 0) :: AV.v (Go.Value.int IntKind.i64 0) :: List.map AV.v [])).length : Int))) <|
   elemD dGPoint x0 (0 + x1.toNat) fun (c3 : GPoint) =>
   k_conversion_exchanged_1 a0 (List.set x0 (0 + x1.toNat) (dGPoint.enc (⟨⟨c2.Y.Num, c2.Y.Den⟩, ⟨c2.X.Num, c2.X.Den⟩⟩))) (w64 (x1 + 1)))
  (chk ((List.replicate (↑(List.map dGPoint.enc a0).length : Int).toNat (AV.v (Go.Value.int IntKind.i64 0) :: AV.v (Go.Value.int IntKind.i64 0) :: AV.v (Go.Value.int IntKind.i64 0) :: AV.v (Go.Value.int IntKind.i64 0) :: List.map AV.v [])).length = x0.length) <|
   some (.new 4 ty_api_Point x0, []))) = some y) : k_conversion_exchanged_1 a0 x0 x1 = some y :=
  pt_of zT [] (by kernel_rfl) h

theorem e_conversion_exchanged (a0 : List GPoint) {y : AV × Mem} (h : (
  chk (((↑(List.map dGPoint.enc a0).length : Int) : Int) = ((↑(List.map dGPoint.enc a0).length : Int))) <|
  chk ((0 : Int) ≤ ((↑(List.map dGPoint.enc a0).length : Int))) <|
  chk ((↑(List.map dGPoint.enc a0).length : Int).toNat * (32 + 1) ≤ 1099511627776) <|
  k_conversion_exchanged_1 a0 (List.replicate ((↑(List.map dGPoint.enc a0).length : Int).toNat) (dGPoint.enc (⟨⟨0, 0⟩, ⟨0, 0⟩⟩))) 0) = some y) : cw f_conversion_exchanged [.sl 4 (List.map dGPoint.enc a0)] [] = some y :=
  callw_tree R_conversion_exchanged zT [] (by kernel_rfl) (by kernel_rfl) (by kernel_rfl) (by kernel_rfl) (by kernel_rfl) h

noncomputable def k_slices_Equal_api_Point_api_Point_1 (a0 : List GPoint) (a1 : List GPoint) (x0 : Int) : Option (AV × Mem) := pt R_slices_Equal_api_Point_api_Point 1 ⟨[(0, .sl 4 (List.map dGPoint.enc a0)), (1, .sl 4 (List.map dGPoint.enc a1)), (12, I ((↑(List.map dGPoint.enc a0).length : Int))), (13, I x0)], []⟩

theorem t_slices_Equal_api_Point_api_Point_1 (a0 : List GPoint) (a1 : List GPoint) (x0 : Int) {y : AV × Mem} (h : (
  brn (decide (x0 < (↑(List.map dGPoint.enc a0).length : Int))) (chk ((0 : Int) ≤ x0) <|
   elemD dGPoint (List.map dGPoint.enc a0) x0.toNat fun (c1 : GPoint) =>
   chk ((0 : Int) ≤ x0) <|
   elemD dGPoint (List.map dGPoint.enc a1) x0.toNat fun (c2 : GPoint) =>
   brn (!(c1.X.Num == c2.X.Num && (c1.X.Den == c2.X.Den && true) && (c1.Y.Num == c2.Y.Num && (c1.Y.Den == c2.Y.Den && true) && true))) (some (B false, []))
   (k_slices_Equal_api_Point_api_Point_1 a0 a1 (w64 (x0 + 1))))
  (some (B true, []))) = some y) : k_slices_Equal_api_Point_api_Point_1 a0 a1 x0 = some y :=
  pt_of zT [] (by kernel_rfl) h

theorem e_slices_Equal_api_Point_api_Point (a0 : List GPoint) (a1 : List GPoint) {y : AV × Mem} (h : (
  brn ((↑(List.map dGPoint.enc a0).length : Int) != (↑(List.map dGPoint.enc a1).length : Int)) (some (B false, []))
  (k_slices_Equal_api_Point_api_Point_1 a0 a1 0)) = some y) : cw f_slices_Equal_api_Point_api_Point [.sl 4 (List.map dGPoint.enc a0), .sl 4 (List.map dGPoint.enc a1)] [] = some y :=
  callw_tree R_slices_Equal_api_Point_api_Point zT [] (by kernel_rfl) (by kernel_rfl) (by kernel_rfl) (by kernel_rfl) (by kernel_rfl) h

noncomputable def k_slices_Index_int_int_1 (a0 : List Int) (a1 : Int) (x0 : Int) : Option (AV × Mem) := pt R_slices_Index_int_int 1 ⟨[(0, .sl 1 (List.map dI_i64.enc a0)), (1, I a1), (7, I ((↑(List.map dI_i64.enc a0).length : Int))), (8, I x0)], []⟩

theorem t_slices_Index_int_int_1 (a0 : List Int) (a1 : Int) (x0 : Int) {y : AV × Mem} (h : (
  brn (decide (x0 < (↑(List.map dI_i64.enc a0).length : Int))) (chk ((0 : Int) ≤ x0) <|
   elemD dI_i64 (List.map dI_i64.enc a0) x0.toNat fun (c1 : Int) =>
   brn (a1 == c1) (some (I x0, []))
   (k_slices_Index_int_int_1 a0 a1 (w64 (x0 + 1))))
  (some (I (-1), []))) = some y) : k_slices_Index_int_int_1 a0 a1 x0 = some y :=
  pt_of zT [] (by kernel_rfl) h

theorem e_slices_Index_int_int (a0 : List Int) (a1 : Int) {y : AV × Mem} (h : (
  k_slices_Index_int_int_1 a0 a1 0) = some y) : cw f_slices_Index_int_int [.sl 1 (List.map dI_i64.enc a0), I a1] [] = some y :=
  callw_tree R_slices_Index_int_int zT [] (by kernel_rfl) (by kernel_rfl) (by kernel_rfl) (by kernel_rfl) (by kernel_rfl) h

theorem e_ratio_New (a0 : Int) (a1 : Int) {y : AV × Mem} (h : (
  brn (a1 == 0) (some (.tup [.agg (dGRatio.enc (⟨0, 0⟩)), I 2], []))
  (callD r_ratio_magnitude (cw f_ratio_magnitude [I a0] []) fun (r0 : Int) =>
   callD r_ratio_magnitude (cw f_ratio_magnitude [I a1] []) fun (r1 : Int) =>
   callD r_ratio_reduced (cw f_ratio_reduced [.agg (dGratioSigned.enc (⟨!decide (a0 < 0) == decide (a1 < 0), ⟨0, r0⟩⟩)), .v (.int .u64 r1)] []) fun (r2 : GRatio × Int) =>
   some (.tup [.agg (dGRatio.enc r2.fst), I r2.snd], []))) = some y) : cw f_ratio_New [I a0, I a1] [] = some y :=
  callw_tree R_ratio_New zT [] (by kernel_rfl) (by kernel_rfl) (by kernel_rfl) (by kernel_rfl) (by kernel_rfl) h

theorem e_ratio_Add (a0 : GRatio) (a1 : GRatio) {y : AV × Mem} (h : (
  callD r_ratio_Valid (cw f_ratio_Valid [.agg (dGRatio.enc a0)] []) fun (r0 : Bool) =>
  brn (!r0) (some (.tup [.agg (dGRatio.enc (⟨0, 0⟩)), I 1], []))
  (callD r_ratio_Valid (cw f_ratio_Valid [.agg (dGRatio.enc a1)] []) fun (r1 : Bool) =>
   brn (!r1) (some (.tup [.agg (dGRatio.enc (⟨0, 0⟩)), I 1], []))
   (callD r_ratio_gcd (cw f_ratio_gcd [.v (.int .u64 (wu64 a0.Den)), .v (.int .u64 (wu64 a1.Den))] []) fun (r2 : Int) =>
    chk ((r2 : Int) ≠ 0) <|
    callD r_ratio_signedProduct (cw f_ratio_signedProduct [I a0.Num, .v (.int .u64 (wu64 ((wu64 a1.Den).tdiv r2)))] []) fun (r3 : GratioSigned) =>
    chk ((r2 : Int) ≠ 0) <|
    callD r_ratio_signedProduct (cw f_ratio_signedProduct [I a1.Num, .v (.int .u64 (wu64 ((wu64 a0.Den).tdiv r2)))] []) fun (r4 : GratioSigned) =>
    callD r_ratio_signed_plus (cw f_ratio_signed_plus [.agg (dGratioSigned.enc r3), .agg (dGratioSigned.enc r4)] []) fun (r5 : GratioSigned) =>
    callD r_ratio_wide_mod (cw f_ratio_wide_mod [.agg (dGratioWide.enc r5.abs), .v (.int .u64 r2)] []) fun (r6 : Int) =>
    callD r_ratio_gcd (cw f_ratio_gcd [.v (.int .u64 r6), .v (.int .u64 r2)] []) fun (r7 : Int) =>
    callD r_ratio_wide_over (cw f_ratio_wide_over [.agg (dGratioWide.enc r5.abs), .v (.int .u64 r7)] []) fun (r8 : GratioWide) =>
    chk ((r2 : Int) ≠ 0) <|
    chk ((r7 : Int) ≠ 0) <|
    callD r_ratio_product (cw f_ratio_product [.v (.int .u64 (wu64 ((wu64 a0.Den).tdiv r2))), .v (.int .u64 (wu64 ((wu64 a1.Den).tdiv r7)))] []) fun (r9 : GratioWide) =>
    callD r_ratio_fitted (cw f_ratio_fitted [B r5.neg, .agg (dGratioWide.enc r8), .agg (dGratioWide.enc r9)] []) fun (r10 : GRatio × Int) =>
    some (.tup [.agg (dGRatio.enc r10.fst), I r10.snd], [])))) = some y) : cw f_ratio_Add [.agg (dGRatio.enc a0), .agg (dGRatio.enc a1)] [] = some y :=
  callw_tree R_ratio_Add zT [] (by kernel_rfl) (by kernel_rfl) (by kernel_rfl) (by kernel_rfl) (by kernel_rfl) h

noncomputable def k_ref01_Divisor_1 (x0 : Gref01Wide) (x1 : Gref01Wide) : Option (AV × Mem) := pt R_ref01_Divisor 1 ⟨[(2, .loc 2 2 0 0), (3, .loc 3 2 0 0), (4, .loc 4 2 0 0)], [(2, ⟨2, ty_ref01_Wide, [dGref01Wide.enc x0], true⟩), (3, ⟨2, ty_ref01_Wide, [dGref01Wide.enc x1], true⟩), (4, ⟨2, ty_ref01_Wide, [dGref01Wide.enc (⟨0, 0⟩)], true⟩)]⟩

theorem t_ref01_Divisor_1 (x0 : Gref01Wide) (x1 : Gref01Wide) {y : AV × Mem} (h : (
  brn (!(x1.Hi == 0 && (x1.Lo == 0 && true))) (callD r_ref01_Divide (cw f_ref01_Divide [.agg (dGref01Wide.enc x0), .agg (dGref01Wide.enc x1)] []) fun (r2 : Gref01Wide × Gref01Wide) =>
   k_ref01_Divisor_1 x1 r2.snd)
  (some (.agg (dGref01Wide.enc x0), []))) = some y) : k_ref01_Divisor_1 x0 x1 = some y :=
  pt_of zT [] (by kernel_rfl) h

theorem e_ref01_Divisor (a0 : Gref01Wide) (a1 : Gref01Wide) {y : AV × Mem} (h : (
  k_ref01_Divisor_1 a0 a1) = some y) : cw f_ref01_Divisor [.agg (dGref01Wide.enc a0), .agg (dGref01Wide.enc a1)] [] = some y :=
  callw_tree R_ref01_Divisor zT [] (by kernel_rfl) (by kernel_rfl) (by kernel_rfl) (by kernel_rfl) (by kernel_rfl) h

noncomputable def k_ref01_Divide_1 (a0 : Gref01Wide) (a1 : Gref01Wide) (x0 : Gref01Wide) (x1 : Gref01Wide) (x2 : Int) : Option (AV × Mem) := pt R_ref01_Divide 1 ⟨[(2, .loc 2 2 0 0), (3, .loc 3 2 0 0), (4, .loc 4 2 0 0), (5, .loc 5 2 0 0), (6, .loc 6 2 0 0), (7, .loc 7 2 0 0), (8, I x2)], [(2, ⟨2, ty_ref01_Wide, [dGref01Wide.enc a0], true⟩), (3, ⟨2, ty_ref01_Wide, [dGref01Wide.enc a1], true⟩), (4, ⟨2, ty_ref01_Wide, [dGref01Wide.enc (⟨0, 0⟩)], true⟩), (5, ⟨2, ty_ref01_Wide, [dGref01Wide.enc (⟨0, 0⟩)], true⟩), (6, ⟨2, ty_ref01_Wide, [dGref01Wide.enc x0], true⟩), (7, ⟨2, ty_ref01_Wide, [dGref01Wide.enc x1], true⟩)]⟩

noncomputable def k_ref01_Divide_1010 (a0 : Gref01Wide) (a1 : Gref01Wide) (x0 : Gref01Wide) (x1 : Gref01Wide) (x2 : Int) : Option (AV × Mem) := pt R_ref01_Divide 1010 ⟨[(2, .loc 2 2 0 0), (3, .loc 3 2 0 0), (4, .loc 4 2 0 0), (5, .loc 5 2 0 0), (6, .loc 6 2 0 0), (7, .loc 7 2 0 0), (8, I x2), (9, .v (.int .u64 (wu64 (↑((a0.Hi.fdiv (2 ^ Min.min (wu64 (w64 (x2 - 64))).toNat 64) % Int.ofNat (2 ^ 64)).toNat &&& (1 % Int.ofNat (2 ^ 64)).toNat) : Int))))], [(2, ⟨2, ty_ref01_Wide, [dGref01Wide.enc a0], true⟩), (3, ⟨2, ty_ref01_Wide, [dGref01Wide.enc a1], true⟩), (4, ⟨2, ty_ref01_Wide, [dGref01Wide.enc (⟨0, 0⟩)], true⟩), (5, ⟨2, ty_ref01_Wide, [dGref01Wide.enc (⟨0, 0⟩)], true⟩), (6, ⟨2, ty_ref01_Wide, [dGref01Wide.enc x0], true⟩), (7, ⟨2, ty_ref01_Wide, [dGref01Wide.enc x1], true⟩)]⟩

noncomputable def k_ref01_Divide_1010v1 (a0 : Gref01Wide) (a1 : Gref01Wide) (x0 : Gref01Wide) (x1 : Gref01Wide) (x2 : Int) : Option (AV × Mem) := pt R_ref01_Divide 1010 ⟨[(2, .loc 2 2 0 0), (3, .loc 3 2 0 0), (4, .loc 4 2 0 0), (5, .loc 5 2 0 0), (6, .loc 6 2 0 0), (7, .loc 7 2 0 0), (8, I x2), (9, .v (.int .u64 (wu64 (↑((a0.Lo.fdiv (2 ^ Min.min (wu64 (x2.tmod 64)).toNat 64) % Int.ofNat (2 ^ 64)).toNat &&& (1 % Int.ofNat (2 ^ 64)).toNat) : Int)))), (45, B false)], [(2, ⟨2, ty_ref01_Wide, [dGref01Wide.enc a0], true⟩), (3, ⟨2, ty_ref01_Wide, [dGref01Wide.enc a1], true⟩), (4, ⟨2, ty_ref01_Wide, [dGref01Wide.enc (⟨0, 0⟩)], true⟩), (5, ⟨2, ty_ref01_Wide, [dGref01Wide.enc (⟨0, 0⟩)], true⟩), (6, ⟨2, ty_ref01_Wide, [dGref01Wide.enc x0], true⟩), (7, ⟨2, ty_ref01_Wide, [dGref01Wide.enc x1], true⟩)]⟩

noncomputable def k_ref01_Divide_1015 (a0 : Gref01Wide) (a1 : Gref01Wide) (x2 : Int) (x5 : Gref01Wide) (x6 : Gref01Wide) : Option (AV × Mem) := pt R_ref01_Divide 1015 ⟨[(2, .loc 2 2 0 0), (3, .loc 3 2 0 0), (4, .loc 4 2 0 0), (5, .loc 5 2 0 0), (6, .loc 6 2 0 0), (7, .loc 7 2 0 0), (8, I x2), (72, B true)], [(2, ⟨2, ty_ref01_Wide, [dGref01Wide.enc a0], true⟩), (3, ⟨2, ty_ref01_Wide, [dGref01Wide.enc a1], true⟩), (4, ⟨2, ty_ref01_Wide, [dGref01Wide.enc (⟨0, 0⟩)], true⟩), (5, ⟨2, ty_ref01_Wide, [dGref01Wide.enc (⟨0, 0⟩)], true⟩), (6, ⟨2, ty_ref01_Wide, [dGref01Wide.enc x5], true⟩), (7, ⟨2, ty_ref01_Wide, [dGref01Wide.enc x6], true⟩)]⟩

theorem t_ref01_Divide_1 (a0 : Gref01Wide) (a1 : Gref01Wide) (x0 : Gref01Wide) (x1 : Gref01Wide) (x2 : Int) {y : AV × Mem} (h : (
  brn (decide (0 ≤ x2)) (chk ((64 : Int) ≠ 0) <|
   chk ((0 : Int) ≤ (wu64 (x2.tmod 64))) <|
   brn (decide (64 ≤ x2)) (chk ((0 : Int) ≤ (wu64 (w64 (x2 - 64)))) <|
    k_ref01_Divide_1010 a0 a1 x0 x1 x2)
   (k_ref01_Divide_1010v1 a0 a1 x0 x1 x2))
  (some (.tup [.agg (dGref01Wide.enc x0), .agg (dGref01Wide.enc x1)], []))) = some y) : k_ref01_Divide_1 a0 a1 x0 x1 x2 = some y :=
  pt_of zT [15, 10] (by kernel_rfl) h

theorem t_ref01_Divide_1010 (a0 : Gref01Wide) (a1 : Gref01Wide) (x0 : Gref01Wide) (x1 : Gref01Wide) (x2 : Int) {y : AV × Mem} (h : (
  chk ((0 : Int) ≤ 63) <|
  callD r_ref01_Twice (cw f_ref01_Twice [.agg (dGref01Wide.enc x1)] []) fun (r3 : Gref01Wide) =>
  callD r_ref01_Twice (cw f_ref01_Twice [.agg (dGref01Wide.enc x0)] []) fun (r4 : Gref01Wide) =>
  brn (x1.Hi.fdiv (2 ^ Min.min (Int.toNat 63) 64) == 1) (k_ref01_Divide_1015 a0 a1 x2 r4 (⟨r3.Hi, wu64 (↑((r3.Lo % Int.ofNat (2 ^ 64)).toNat ||| (wu64 (↑((a0.Hi.fdiv (2 ^ Min.min (wu64 (w64 (x2 - 64))).toNat 64) % Int.ofNat (2 ^ 64)).toNat &&& (1 % Int.ofNat (2 ^ 64)).toNat) : Int) % Int.ofNat (2 ^ 64)).toNat) : Int)⟩))
  (callD r_ref01_Order (cw f_ref01_Order [.agg (dGref01Wide.enc (⟨r3.Hi, wu64 (↑((r3.Lo % Int.ofNat (2 ^ 64)).toNat ||| (wu64 (↑((a0.Hi.fdiv (2 ^ Min.min (wu64 (w64 (x2 - 64))).toNat 64) % Int.ofNat (2 ^ 64)).toNat &&& (1 % Int.ofNat (2 ^ 64)).toNat) : Int) % Int.ofNat (2 ^ 64)).toNat) : Int)⟩)), .agg (dGref01Wide.enc a1)] []) fun (r7 : Int) =>
   brn (decide (0 ≤ r7)) (k_ref01_Divide_1015 a0 a1 x2 r4 (⟨r3.Hi, wu64 (↑((r3.Lo % Int.ofNat (2 ^ 64)).toNat ||| (wu64 (↑((a0.Hi.fdiv (2 ^ Min.min (wu64 (w64 (x2 - 64))).toNat 64) % Int.ofNat (2 ^ 64)).toNat &&& (1 % Int.ofNat (2 ^ 64)).toNat) : Int) % Int.ofNat (2 ^ 64)).toNat) : Int)⟩))
   (k_ref01_Divide_1 a0 a1 r4 (⟨r3.Hi, wu64 (↑((r3.Lo % Int.ofNat (2 ^ 64)).toNat ||| (wu64 (↑((a0.Hi.fdiv (2 ^ Min.min (wu64 (w64 (x2 - 64))).toNat 64) % Int.ofNat (2 ^ 64)).toNat &&& (1 % Int.ofNat (2 ^ 64)).toNat) : Int) % Int.ofNat (2 ^ 64)).toNat) : Int)⟩) (w64 (x2 - 1))))) = some y) : k_ref01_Divide_1010 a0 a1 x0 x1 x2 = some y :=
  pt_of zT [15, 10] (by kernel_rfl) h

theorem t_ref01_Divide_1010v1 (a0 : Gref01Wide) (a1 : Gref01Wide) (x0 : Gref01Wide) (x1 : Gref01Wide) (x2 : Int) {y : AV × Mem} (h : (
  chk ((0 : Int) ≤ 63) <|
  callD r_ref01_Twice (cw f_ref01_Twice [.agg (dGref01Wide.enc x1)] []) fun (r8 : Gref01Wide) =>
  callD r_ref01_Twice (cw f_ref01_Twice [.agg (dGref01Wide.enc x0)] []) fun (r9 : Gref01Wide) =>
  brn (x1.Hi.fdiv (2 ^ Min.min (Int.toNat 63) 64) == 1) (k_ref01_Divide_1015 a0 a1 x2 r9 (⟨r8.Hi, wu64 (↑((r8.Lo % Int.ofNat (2 ^ 64)).toNat ||| (wu64 (↑((a0.Lo.fdiv (2 ^ Min.min (wu64 (x2.tmod 64)).toNat 64) % Int.ofNat (2 ^ 64)).toNat &&& (1 % Int.ofNat (2 ^ 64)).toNat) : Int) % Int.ofNat (2 ^ 64)).toNat) : Int)⟩))
  (callD r_ref01_Order (cw f_ref01_Order [.agg (dGref01Wide.enc (⟨r8.Hi, wu64 (↑((r8.Lo % Int.ofNat (2 ^ 64)).toNat ||| (wu64 (↑((a0.Lo.fdiv (2 ^ Min.min (wu64 (x2.tmod 64)).toNat 64) % Int.ofNat (2 ^ 64)).toNat &&& (1 % Int.ofNat (2 ^ 64)).toNat) : Int) % Int.ofNat (2 ^ 64)).toNat) : Int)⟩)), .agg (dGref01Wide.enc a1)] []) fun (r10 : Int) =>
   brn (decide (0 ≤ r10)) (k_ref01_Divide_1015 a0 a1 x2 r9 (⟨r8.Hi, wu64 (↑((r8.Lo % Int.ofNat (2 ^ 64)).toNat ||| (wu64 (↑((a0.Lo.fdiv (2 ^ Min.min (wu64 (x2.tmod 64)).toNat 64) % Int.ofNat (2 ^ 64)).toNat &&& (1 % Int.ofNat (2 ^ 64)).toNat) : Int) % Int.ofNat (2 ^ 64)).toNat) : Int)⟩))
   (k_ref01_Divide_1 a0 a1 r9 (⟨r8.Hi, wu64 (↑((r8.Lo % Int.ofNat (2 ^ 64)).toNat ||| (wu64 (↑((a0.Lo.fdiv (2 ^ Min.min (wu64 (x2.tmod 64)).toNat 64) % Int.ofNat (2 ^ 64)).toNat &&& (1 % Int.ofNat (2 ^ 64)).toNat) : Int) % Int.ofNat (2 ^ 64)).toNat) : Int)⟩) (w64 (x2 - 1))))) = some y) : k_ref01_Divide_1010v1 a0 a1 x0 x1 x2 = some y :=
  pt_of zT [15, 10] (by kernel_rfl) h

theorem t_ref01_Divide_1015 (a0 : Gref01Wide) (a1 : Gref01Wide) (x2 : Int) (x5 : Gref01Wide) (x6 : Gref01Wide) {y : AV × Mem} (h : (
  callD r_ref01_Minus (cw f_ref01_Minus [.agg (dGref01Wide.enc x6), .agg (dGref01Wide.enc a1)] []) fun (r11 : Gref01Wide) =>
  k_ref01_Divide_1 a0 a1 (⟨x5.Hi, wu64 (↑((x5.Lo % Int.ofNat (2 ^ 64)).toNat ||| (1 % Int.ofNat (2 ^ 64)).toNat) : Int)⟩) r11 (w64 (x2 - 1))) = some y) : k_ref01_Divide_1015 a0 a1 x2 x5 x6 = some y :=
  pt_of zT [15, 10] (by kernel_rfl) h

theorem e_ref01_Divide (a0 : Gref01Wide) (a1 : Gref01Wide) {y : AV × Mem} (h : (
  brn (a0.Hi == 0) (brn (a1.Hi == 0) (chk ((a1.Lo : Int) ≠ 0) <|
    chk ((a1.Lo : Int) ≠ 0) <|
    some (.tup [.agg (dGref01Wide.enc (⟨0, wu64 (a0.Lo.tdiv a1.Lo)⟩)), .agg (dGref01Wide.enc (⟨0, a0.Lo.tmod a1.Lo⟩))], []))
   (k_ref01_Divide_1 a0 a1 (⟨0, 0⟩) (⟨0, 0⟩) 127))
  (k_ref01_Divide_1 a0 a1 (⟨0, 0⟩) (⟨0, 0⟩) 127)) = some y) : cw f_ref01_Divide [.agg (dGref01Wide.enc a0), .agg (dGref01Wide.enc a1)] [] = some y :=
  callw_tree R_ref01_Divide zT [15, 10] (by kernel_rfl) (by kernel_rfl) (by kernel_rfl) (by kernel_rfl) (by kernel_rfl) h

noncomputable def k_conversion_ascending_1 (a0 : List GPoint) (x0 : Int) : Option (AV × Mem) := pt R_conversion_ascending 1 ⟨[(0, .sl 4 (List.map dGPoint.enc a0)), (5, .sl 4 (List.map dGPoint.enc a0)), (6, I ((↑(List.map dGPoint.enc a0).length : Int))), (7, I x0)], []⟩

theorem t_conversion_ascending_1 (a0 : List GPoint) (x0 : Int) {y : AV × Mem} (h : (
  brn (decide (x0 < (↑(List.map dGPoint.enc a0).length : Int))) (chk ((0 : Int) ≤ x0) <|
   elemD dGPoint (List.map dGPoint.enc a0) x0.toNat fun (c1 : GPoint) =>
   callD r_ratio_Valid (cw f_ratio_Valid [.agg (dGRatio.enc c1.X)] []) fun (r2 : Bool) =>
   brn (!r2) (some (B false, []))
   (callD r_ratio_Valid (cw f_ratio_Valid [.agg (dGRatio.enc c1.Y)] []) fun (r3 : Bool) =>
    brn (!r3) (some (B false, []))
    (brn (decide (0 < x0)) (chk ((0 : Int) ≤ (w64 (x0 - 1))) <|
      elemD dGPoint (List.map dGPoint.enc a0) ((w64 (x0 - 1)).toNat) fun (c4 : GPoint) =>
      callD r_ratio_Less (cw f_ratio_Less [.agg (dGRatio.enc c4.X), .agg (dGRatio.enc c1.X)] []) fun (r5 : Bool) =>
      brn (!r5) (some (B false, []))
      (chk ((0 : Int) ≤ (w64 (x0 - 1))) <|
       elemD dGPoint (List.map dGPoint.enc a0) ((w64 (x0 - 1)).toNat) fun (c6 : GPoint) =>
       callD r_ratio_Less (cw f_ratio_Less [.agg (dGRatio.enc c6.Y), .agg (dGRatio.enc c1.Y)] []) fun (r7 : Bool) =>
       brn (!r7) (some (B false, []))
       (k_conversion_ascending_1 a0 (w64 (x0 + 1)))))
     (k_conversion_ascending_1 a0 (w64 (x0 + 1))))))
  (some (B true, []))) = some y) : k_conversion_ascending_1 a0 x0 = some y :=
  pt_of zT [] (by kernel_rfl) h

theorem e_conversion_ascending (a0 : List GPoint) {y : AV × Mem} (h : (
  k_conversion_ascending_1 a0 0) = some y) : cw f_conversion_ascending [.sl 4 (List.map dGPoint.enc a0)] [] = some y :=
  callw_tree R_conversion_ascending zT [] (by kernel_rfl) (by kernel_rfl) (by kernel_rfl) (by kernel_rfl) (by kernel_rfl) h

noncomputable def k_ratio_gcd_1 (x0 : Int) (x1 : Int) : Option (AV × Mem) := pt R_ratio_gcd 1 ⟨[(0, .v (.int .u64 x0)), (1, .v (.int .u64 x1))], []⟩

theorem t_ratio_gcd_1 (x0 : Int) (x1 : Int) {y : AV × Mem} (h : (
  brn (x1 != 0) (chk ((x1 : Int) ≠ 0) <|
   k_ratio_gcd_1 x1 (x0.tmod x1))
  (some (.v (.int .u64 x0), []))) = some y) : k_ratio_gcd_1 x0 x1 = some y :=
  pt_of zT [] (by kernel_rfl) h

theorem e_ratio_gcd (a0 : Int) (a1 : Int) {y : AV × Mem} (h : (
  k_ratio_gcd_1 a0 a1) = some y) : cw f_ratio_gcd [.v (.int .u64 a0), .v (.int .u64 a1)] [] = some y :=
  callw_tree R_ratio_gcd zT [] (by kernel_rfl) (by kernel_rfl) (by kernel_rfl) (by kernel_rfl) (by kernel_rfl) h

theorem e_ratio_magnitude (a0 : Int) {y : AV × Mem} (h : (
  brn (decide (a0 < 0)) (some (.v (.int .u64 (wu64 (0 - wu64 a0))), []))
  (some (.v (.int .u64 (wu64 a0)), []))) = some y) : cw f_ratio_magnitude [I a0] [] = some y :=
  callw_tree R_ratio_magnitude zT [] (by kernel_rfl) (by kernel_rfl) (by kernel_rfl) (by kernel_rfl) (by kernel_rfl) h

noncomputable def k_sort_Search_eval_1 (ax : GRatio) (al : List GPoint) (x0 : Int) (x1 : Int) : Option (AV × Mem) := pt R_sort_Search 1 ⟨[(1, .fn f_conversion_eval_1 [.fp [I ax.Num, I ax.Den], .fp [.sl 4 (List.map dGPoint.enc al)]]), (5, I x0), (6, I x1)], []⟩

theorem t_sort_Search_eval_1 (ax : GRatio) (al : List GPoint) (x0 : Int) (x1 : Int) {y : AV × Mem} (h : (
  brn (decide (x0 < x1)) (chk ((0 : Int) ≤ 1) <|
   callD r_conversion_eval_1 (cw f_conversion_eval_1 [I (w64 ((wu64 (w64 (x0 + x1))).fdiv (2 ^ Min.min (Int.toNat 1) 64))), .fp [I ax.Num, I ax.Den], .fp [.sl 4 (List.map dGPoint.enc al)]] []) fun (r2 : Bool) =>
   brn (!r2) (k_sort_Search_eval_1 ax al (w64 (w64 ((wu64 (w64 (x0 + x1))).fdiv (2 ^ Min.min (Int.toNat 1) 64)) + 1)) x1)
   (k_sort_Search_eval_1 ax al x0 (w64 ((wu64 (w64 (x0 + x1))).fdiv (2 ^ Min.min (Int.toNat 1) 64)))))
  (some (I x0, []))) = some y) : k_sort_Search_eval_1 ax al x0 x1 = some y :=
  pt_of zT [] (by kernel_rfl) h

theorem e_sort_Search_eval (a0 : Int) (ax : GRatio) (al : List GPoint) {y : AV × Mem} (h : (
  k_sort_Search_eval_1 ax al 0 a0) = some y) : cw f_sort_Search [I a0, .fn f_conversion_eval_1 [.fp [I ax.Num, I ax.Den], .fp [.sl 4 (List.map dGPoint.enc al)]]] [] = some y :=
  callw_tree R_sort_Search zT [] (by kernel_rfl) (by kernel_rfl) (by kernel_rfl) (by kernel_rfl) (by kernel_rfl) h

theorem e_conversion_eval_1 (a0 : Int) (ax : GRatio) (al : List GPoint) {y : AV × Mem} (h : (
  chk ((0 : Int) ≤ (w64 (a0 + 1))) <|
  elemD dGPoint (List.map dGPoint.enc al) ((w64 (a0 + 1)).toNat) fun (c0 : GPoint) =>
  callD r_ratio_Compare (cw f_ratio_Compare [.agg (dGRatio.enc ax), .agg (dGRatio.enc c0.X)] []) fun (r1 : Int) =>
  some (B (decide (r1 ≤ 0)), [])) = some y) : cw f_conversion_eval_1 [I a0, .fp [I ax.Num, I ax.Den], .fp [.sl 4 (List.map dGPoint.enc al)]] [] = some y :=
  callw_tree R_conversion_eval_1 zT [] (by kernel_rfl) (by kernel_rfl) (by kernel_rfl) (by kernel_rfl) (by kernel_rfl) h

end Go.Proofs.Ythhedegaeeadhaa
