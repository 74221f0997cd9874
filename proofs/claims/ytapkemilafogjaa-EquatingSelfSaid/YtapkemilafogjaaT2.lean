/- What the functions compute, between two cut points: printed by a program, checked by the kernel. -/
import Derived.Test.YtapkemilafogjaaAnn
namespace Go.Proofs.Ytapkemilafogjaa
open Go.Ab
set_option maxRecDepth 100000
set_option linter.unusedVariables false

noncomputable def k_conversion_Compose_1 (a0 : GCurve) (a1 : GCurve) (x2 : List (List AV)) (x3 : Int) : Option (AV × Mem) := pt R_conversion_Compose 1 ⟨[(2, .loc 2 1 0 0), (3, .loc 3 1 0 0), (4, .loc 4 1 0 0), (6, .row 6 2 0 (List.length x2)), (30, .sl 4 (List.map dGPoint.enc a0.Points)), (31, I ((↑(List.map dGPoint.enc a0.Points).length : Int))), (32, I x3)], [(2, ⟨1, ty_api_Curve, [dGCurve.enc a0], true⟩), (3, ⟨1, ty_api_Curve, [dGCurve.enc a1], true⟩), (4, ⟨1, ty_api_Curve, [[.v (.slice none 0 0)]], true⟩), (6, ⟨2, ty_api_Ratio, x2, false⟩)]⟩

noncomputable def k_conversion_Compose_2 (a0 : GCurve) (a1 : GCurve) (r5 : (List GPoint)) (x6 : List (List AV)) (x7 : Int) : Option (AV × Mem) := pt R_conversion_Compose 2 ⟨[(2, .loc 2 1 0 0), (3, .loc 3 1 0 0), (4, .loc 4 1 0 0), (6, .row 6 2 0 (List.length x6)), (9, .row 44 4 0 (List.length (List.map dGPoint.enc r5))), (46, .sl 4 (List.map dGPoint.enc a1.Points)), (47, I ((↑(List.map dGPoint.enc a1.Points).length : Int))), (48, I x7)], [(2, ⟨1, ty_api_Curve, [dGCurve.enc a0], true⟩), (3, ⟨1, ty_api_Curve, [dGCurve.enc a1], true⟩), (4, ⟨1, ty_api_Curve, [[.v (.slice none 0 0)]], true⟩), (6, ⟨2, ty_api_Ratio, x6, false⟩), (44, ⟨4, ty_api_Point, List.map dGPoint.enc r5, false⟩)]⟩

noncomputable def k_conversion_Compose_3 (a0 : GCurve) (a1 : GCurve) (r11 : Nat × (List GRatio)) (x12 : List (List AV)) (x13 : Int) : Option (AV × Mem) := pt R_conversion_Compose 3 ⟨[(2, .loc 2 1 0 0), (3, .loc 3 1 0 0), (4, .loc 4 1 0 0), (14, .row 74 4 0 ((List.replicate (↑r11.fst : Int).toNat (AV.v (Go.Value.int IntKind.i64 0) :: AV.v (Go.Value.int IntKind.i64 0) :: AV.v (Go.Value.int IntKind.i64 0) :: AV.v (Go.Value.int IntKind.i64 0) :: List.map AV.v [])).length)), (75, .row 6 2 0 r11.fst), (76, I (↑r11.fst : Int)), (77, I x13)], [(2, ⟨1, ty_api_Curve, [dGCurve.enc a0], true⟩), (3, ⟨1, ty_api_Curve, [dGCurve.enc a1], true⟩), (4, ⟨1, ty_api_Curve, [[.v (.slice none 0 0)]], true⟩), (6, ⟨2, ty_api_Ratio, List.map dGRatio.enc r11.snd, false⟩), (74, ⟨4, ty_api_Point, x12, false⟩)]⟩

theorem t_conversion_Compose_1 (a0 : GCurve) (a1 : GCurve) (x2 : List (List AV)) (x3 : Int) {y : AV × Mem} (h : (
  brn (decide (x3 < (↑(List.map dGPoint.enc a0.Points).length : Int))) (chk ((0 : Int) ≤ x3) <|
   elemD dGPoint (List.map dGPoint.enc a0.Points) x3.toNat fun (c4 : GPoint) =>
   chk (x2.length = x2.length) <|
   chk ((x2.length + 1) * (16 + 1) ≤ 1099511627776) <|
   chk ((x2 ++ [[AV.v (Go.Value.int IntKind.i64 c4.X.Num), AV.v (Go.Value.int IntKind.i64 c4.X.Den)]]).length = (x2 ++ [[AV.v (Go.Value.int IntKind.i64 c4.X.Num), AV.v (Go.Value.int IntKind.i64 c4.X.Den)]]).length) <|
   k_conversion_Compose_1 a0 a1 (x2 ++ ([dGRatio.enc c4.X])) (w64 (x3 + 1)))
  (callD r_conversion_exchanged (cw f_conversion_exchanged [.sl 4 (List.map dGPoint.enc a0.Points)] []) fun (r5 : (List GPoint)) =>
   k_conversion_Compose_2 a0 a1 r5 x2 0)) = some y) : k_conversion_Compose_1 a0 a1 x2 x3 = some y :=
  pt_of zT [] (by kernel_rfl) h

theorem t_conversion_Compose_2 (a0 : GCurve) (a1 : GCurve) (r5 : (List GPoint)) (x6 : List (List AV)) (x7 : Int) {y : AV × Mem} (h : (
  brn (decide (x7 < (↑(List.map dGPoint.enc a1.Points).length : Int))) (chk ((0 : Int) ≤ x7) <|
   elemD dGPoint (List.map dGPoint.enc a1.Points) x7.toNat fun (c8 : GPoint) =>
   chk (0 + (List.map dGPoint.enc r5).length ≤ (List.map dGPoint.enc r5).length) <|
   callD r_conversion_eval (cw f_conversion_eval [.sl 4 (List.take ((List.map dGPoint.enc r5).length) (List.map dGPoint.enc r5)), .agg (dGRatio.enc c8.X)] []) fun (r9 : GRatio × Int) =>
   brn (r9.snd != 0) (some (.tup [.agg (dGCurve.enc ⟨[]⟩), I r9.snd], []))
   (chk (x6.length = x6.length) <|
    chk ((x6.length + 1) * (16 + 1) ≤ 1099511627776) <|
    chk ((x6 ++ [[AV.v (Go.Value.int IntKind.i64 r9.fst.Num), AV.v (Go.Value.int IntKind.i64 r9.fst.Den)]]).length = (x6 ++ [[AV.v (Go.Value.int IntKind.i64 r9.fst.Num), AV.v (Go.Value.int IntKind.i64 r9.fst.Den)]]).length) <|
    k_conversion_Compose_2 a0 a1 r5 (x6 ++ ([dGRatio.enc r9.fst])) (w64 (x7 + 1))))
  (callD r_slices_SortFunc_api_Ratio_api_Ratio (cw f_slices_SortFunc_api_Ratio_api_Ratio [.row 1000 2 0 (List.length x6), .fn f_ratio_Compare []] [(1000, ⟨2, ty_api_Ratio, x6, false⟩)]) fun (r10 : (List GRatio)) =>
   callD r_slices_Compact_api_Ratio_api_Ratio (cw f_slices_Compact_api_Ratio_api_Ratio [.row 1000 2 0 x6.length] [(1000, ⟨2, ty_api_Ratio, List.map dGRatio.enc r10, false⟩)]) fun (r11 : Nat × (List GRatio)) =>
   chk (((↑r11.fst : Int) : Int) = (↑r11.fst : Int)) <|
   chk ((0 : Int) ≤ (↑r11.fst : Int)) <|
   chk ((↑r11.fst : Int).toNat * (32 + 1) ≤ 1099511627776) <|
   k_conversion_Compose_3 a0 a1 r11 (List.replicate ((↑r11.fst : Int).toNat) (dGPoint.enc (⟨⟨0, 0⟩, ⟨0, 0⟩⟩))) 0)) = some y) : k_conversion_Compose_2 a0 a1 r5 x6 x7 = some y :=
  pt_of zT [] (by kernel_rfl) h

theorem t_conversion_Compose_3 (a0 : GCurve) (a1 : GCurve) (r11 : Nat × (List GRatio)) (x12 : List (List AV)) (x13 : Int) {y : AV × Mem} (h : (
  brn (decide (x13 < (↑r11.fst : Int))) (chk ((0 : Int) ≤ x13) <|
   chk ((x13 : Int) < (↑r11.fst : Int)) <|
   elemD dGRatio (List.map dGRatio.enc r11.snd) (0 + x13.toNat) fun (c14 : GRatio) =>
   callD r_conversion_eval (cw f_conversion_eval [.sl 4 (List.map dGPoint.enc a0.Points), .agg (dGRatio.enc c14)] []) fun (r15 : GRatio × Int) =>
   brn (r15.snd != 0) (some (.tup [.agg (dGCurve.enc ⟨[]⟩), I r15.snd], []))
   (callD r_conversion_eval (cw f_conversion_eval [.sl 4 (List.map dGPoint.enc a1.Points), .agg (dGRatio.enc r15.fst)] []) fun (r16 : GRatio × Int) =>
    brn (r16.snd != 0) (some (.tup [.agg (dGCurve.enc ⟨[]⟩), I r16.snd], []))
    (chk ((0 : Int) ≤ x13) <|
     chk ((x13 : Int) < ((↑(List.replicate (↑r11.fst : Int).toNat (AV.v (Go.Value.int IntKind.i64 0) :: AV.v (Go.Value.int IntKind.i64 0) :: AV.v (Go.Value.int IntKind.i64 0) :: AV.v (Go.Value.int IntKind.i64 0) :: List.map AV.v [])).length : Int))) <|
     elemD dGPoint x12 (0 + x13.toNat) fun (c17 : GPoint) =>
     k_conversion_Compose_3 a0 a1 r11 (List.set x12 (0 + x13.toNat) (dGPoint.enc (⟨⟨c14.Num, c14.Den⟩, ⟨r16.fst.Num, r16.fst.Den⟩⟩))) (w64 (x13 + 1)))))
  (chk (0 + (List.replicate (↑r11.fst : Int).toNat (AV.v (Go.Value.int IntKind.i64 0) :: AV.v (Go.Value.int IntKind.i64 0) :: AV.v (Go.Value.int IntKind.i64 0) :: AV.v (Go.Value.int IntKind.i64 0) :: List.map AV.v [])).length ≤ x12.length) <|
   callD r_conversion_normal (cw f_conversion_normal [.sl 4 (List.take ((List.replicate (↑r11.fst : Int).toNat (AV.v (Go.Value.int IntKind.i64 0) :: AV.v (Go.Value.int IntKind.i64 0) :: AV.v (Go.Value.int IntKind.i64 0) :: AV.v (Go.Value.int IntKind.i64 0) :: List.map AV.v [])).length) x12)] []) fun (r18 : GCurve × Int) =>
   chk (0 + (List.replicate (↑r11.fst : Int).toNat (AV.v (Go.Value.int IntKind.i64 0) :: AV.v (Go.Value.int IntKind.i64 0) :: AV.v (Go.Value.int IntKind.i64 0) :: AV.v (Go.Value.int IntKind.i64 0) :: List.map AV.v [])).length ≤ x12.length) <|
   chk (0 + (List.replicate (↑r11.fst : Int).toNat (AV.v (Go.Value.int IntKind.i64 0) :: AV.v (Go.Value.int IntKind.i64 0) :: AV.v (Go.Value.int IntKind.i64 0) :: AV.v (Go.Value.int IntKind.i64 0) :: List.map AV.v [])).length ≤ x12.length) <|
   some (.tup [.agg (dGCurve.enc r18.fst), I r18.snd], []))) = some y) : k_conversion_Compose_3 a0 a1 r11 x12 x13 = some y :=
  pt_of zT [] (by kernel_rfl) h

theorem e_conversion_Compose (a0 : GCurve) (a1 : GCurve) {y : AV × Mem} (h : (
  callD r_conversion_Valid (cw f_conversion_Valid [.agg (dGCurve.enc a0)] []) fun (r0 : Bool) =>
  brn (!r0) (some (.tup [.agg (dGCurve.enc ⟨[]⟩), I 1], []))
  (callD r_conversion_Valid (cw f_conversion_Valid [.agg (dGCurve.enc a1)] []) fun (r1 : Bool) =>
   brn (!r1) (some (.tup [.agg (dGCurve.enc ⟨[]⟩), I 1], []))
   (k_conversion_Compose_1 a0 a1 [] 0))) = some y) : cw f_conversion_Compose [.agg (dGCurve.enc a0), .agg (dGCurve.enc a1)] [] = some y :=
  callw_tree R_conversion_Compose zT [] (by kernel_rfl) (by kernel_rfl) (by kernel_rfl) (by kernel_rfl) (by kernel_rfl) h

theorem e_conversion_Normal (a0 : GCurve) {y : AV × Mem} (h : (
  callD r_conversion_Valid (cw f_conversion_Valid [.agg (dGCurve.enc a0)] []) fun (r0 : Bool) =>
  brn (!r0) (some (.tup [.agg (dGCurve.enc ⟨[]⟩), I 1], []))
  (callD r_conversion_normal (cw f_conversion_normal [.sl 4 (List.map dGPoint.enc a0.Points)] []) fun (r1 : GCurve × Int) =>
   some (.tup [.agg (dGCurve.enc r1.fst), I r1.snd], []))) = some y) : cw f_conversion_Normal [.agg (dGCurve.enc a0)] [] = some y :=
  callw_tree R_conversion_Normal zT [] (by kernel_rfl) (by kernel_rfl) (by kernel_rfl) (by kernel_rfl) (by kernel_rfl) h

noncomputable def k_slices_Equal_api_Point_api_Point_1 (a0 : List GPoint) (a1 : List GPoint) (x0 : Int) : Option (AV × Mem) := pt R_slices_Equal_api_Point_api_Point 1 ⟨[(0, .sl 4 (List.map dGPoint.enc a0)), (1, .sl 4 (List.map dGPoint.enc a1)), (12, I ((↑(List.map dGPoint.enc a0).length : Int))), (13, I x0)], []⟩

theorem t_slices_Equal_api_Point_api_Point_1 (a0 : List GPoint) (a1 : List GPoint) (x0 : Int) {y : AV × Mem} (h : (
  brn (decide (x0 < (↑(List.map dGPoint.enc a0).length : Int))) (chk ((0 : Int) ≤ x0) <|
   elemD dGPoint (List.map dGPoint.enc a0) x0.toNat fun (c1 : GPoint) =>
   chk ((0 : Int) ≤ x0) <|
   elemD dGPoint (List.map dGPoint.enc a1) x0.toNat fun (c2 : GPoint) =>
   brn (!(c1.X.Num == c2.X.Num && (c1.X.Den == c2.X.Den && true) && (c1.Y.Num == c2.Y.Num && (c1.Y.Den == c2.Y.Den && true) && true))) (some (B false, []))
   (k_slices_Equal_api_Point_api_Point_1 a0 a1 (w64 (x0 + 1))))
  (some (B true, []))) = some y) : k_slices_Equal_api_Point_api_Point_1 a0 a1 x0 = some y :=
  pt_of zT [] (by kernel_rfl) h

theorem e_slices_Equal_api_Point_api_Point (a0 : List GPoint) (a1 : List GPoint) {y : AV × Mem} (h : (
  brn ((↑(List.map dGPoint.enc a0).length : Int) != (↑(List.map dGPoint.enc a1).length : Int)) (some (B false, []))
  (k_slices_Equal_api_Point_api_Point_1 a0 a1 0)) = some y) : cw f_slices_Equal_api_Point_api_Point [.sl 4 (List.map dGPoint.enc a0), .sl 4 (List.map dGPoint.enc a1)] [] = some y :=
  callw_tree R_slices_Equal_api_Point_api_Point zT [] (by kernel_rfl) (by kernel_rfl) (by kernel_rfl) (by kernel_rfl) (by kernel_rfl) h

noncomputable def k_distribution_Valid_1 (a0 : GDistribution) (x0 : Int) (x1 : Int) : Option (AV × Mem) := pt R_distribution_Valid 1 ⟨[(3, I x0), (17, .sl 1 (List.map dI_i64.enc a0.Counts)), (18, I ((↑(List.map dI_i64.enc a0.Counts).length : Int))), (19, I x1)], []⟩

theorem t_distribution_Valid_1 (a0 : GDistribution) (x0 : Int) (x1 : Int) {y : AV × Mem} (h : (
  brn (decide (x1 < (↑(List.map dI_i64.enc a0.Counts).length : Int))) (chk ((0 : Int) ≤ x1) <|
   elemD dI_i64 (List.map dI_i64.enc a0.Counts) x1.toNat fun (c2 : Int) =>
   brn (decide (c2 < 0)) (some (B false, []))
   (brn (decide (1048576 < c2)) (some (B false, []))
    (k_distribution_Valid_1 a0 (w64 (x0 + c2)) (w64 (x1 + 1)))))
  (some (B (decide (x0 ≤ 1048576)), []))) = some y) : k_distribution_Valid_1 a0 x0 x1 = some y :=
  pt_of zT [] (by kernel_rfl) h

theorem e_distribution_Valid (a0 : GDistribution) {y : AV × Mem} (h : (
  brn (decide ((↑(List.map dI_i64.enc a0.Counts).length : Int) < 1)) (some (B false, []))
  (brn (decide (201 < (↑(List.map dI_i64.enc a0.Counts).length : Int))) (some (B false, []))
   (k_distribution_Valid_1 a0 0 0))) = some y) : cw f_distribution_Valid [.agg (dGDistribution.enc a0)] [] = some y :=
  callw_tree R_distribution_Valid zT [] (by kernel_rfl) (by kernel_rfl) (by kernel_rfl) (by kernel_rfl) (by kernel_rfl) h

theorem e_slices_Contains_int_int (a0 : List Int) (a1 : Int) {y : AV × Mem} (h : (
  callD r_slices_Index_int_int (cw f_slices_Index_int_int [.sl 1 (List.map dI_i64.enc a0), I a1] []) fun (r0 : Int) =>
  some (B (decide (0 ≤ r0)), [])) = some y) : cw f_slices_Contains_int_int [.sl 1 (List.map dI_i64.enc a0), I a1] [] = some y :=
  callw_tree R_slices_Contains_int_int zT [] (by kernel_rfl) (by kernel_rfl) (by kernel_rfl) (by kernel_rfl) (by kernel_rfl) h

noncomputable def k_equating_sums_1 (a0 : GDistribution) (x0 : List (List AV)) (x1 : Int) : Option (AV × Mem) := pt R_equating_sums 1 ⟨[(3, .row 3 1 0 (List.length x0)), (8, .sl 1 (List.map dI_i64.enc a0.Counts)), (9, I ((↑(List.map dI_i64.enc a0.Counts).length : Int))), (10, I x1)], [(3, ⟨1, ty_i64_2, x0, false⟩)]⟩

theorem t_equating_sums_1 (a0 : GDistribution) (x0 : List (List AV)) (x1 : Int) {y : AV × Mem} (h : (
  brn (decide (x1 < (↑(List.map dI_i64.enc a0.Counts).length : Int))) (chk ((0 : Int) ≤ x1) <|
   elemD dI_i64 (List.map dI_i64.enc a0.Counts) x1.toNat fun (c2 : Int) =>
   chk ((0 : Int) ≤ x1) <|
   chk ((x1 : Int) < (↑x0.length : Int)) <|
   elemD dI_i64 x0 (0 + x1.toNat) fun (c3 : Int) =>
   chk (x0.length = x0.length) <|
   chk ((x0.length + 1) * (8 + 1) ≤ 1099511627776) <|
   chk ((x0 ++ [[AV.v (Go.Value.int IntKind.i64 (w64 (c3 + c2)))]]).length = (x0 ++ [[AV.v (Go.Value.int IntKind.i64 (w64 (c3 + c2)))]]).length) <|
   k_equating_sums_1 a0 (x0 ++ ([dI_i64.enc (w64 (c3 + c2))])) (w64 (x1 + 1)))
  (chk (x0.length = x0.length) <|
   some (.new 1 ty_i64_2 x0, []))) = some y) : k_equating_sums_1 a0 x0 x1 = some y :=
  pt_of zT [] (by kernel_rfl) h

theorem e_equating_sums (a0 : GDistribution) {y : AV × Mem} (h : (
  chk (1 = 1) <|
  k_equating_sums_1 a0 ([dI_i64.enc 0]) 0) = some y) : cw f_equating_sums [.agg (dGDistribution.enc a0)] [] = some y :=
  callw_tree R_equating_sums zT [] (by kernel_rfl) (by kernel_rfl) (by kernel_rfl) (by kernel_rfl) (by kernel_rfl) h

theorem e_equating_number (a0 : List Int) (a1 : Int) (a2 : Int) (a3 : Int) {y : AV × Mem} (h : (
  chk ((0 : Int) ≤ (w64 ((↑(List.map dI_i64.enc a0).length : Int) - 1))) <|
  elemD dI_i64 (List.map dI_i64.enc a0) ((w64 ((↑(List.map dI_i64.enc a0).length : Int) - 1)).toNat) fun (c0 : Int) =>
  callD r_ratio_New (cw f_ratio_New [I (w64 (w64 (2 * a1) - 1)), I 2] []) fun (r1 : GRatio × Int) =>
  brn (r1.snd != 0) (some (.tup [.agg (dGRatio.enc (⟨0, 0⟩)), I r1.snd], []))
  (chk ((0 : Int) ≤ a1) <|
   elemD dI_i64 (List.map dI_i64.enc a0) a1.toNat fun (c2 : Int) =>
   chk ((0 : Int) ≤ (w64 (a1 + 1))) <|
   elemD dI_i64 (List.map dI_i64.enc a0) ((w64 (a1 + 1)).toNat) fun (c3 : Int) =>
   chk ((0 : Int) ≤ a1) <|
   elemD dI_i64 (List.map dI_i64.enc a0) a1.toNat fun (c4 : Int) =>
   callD r_ratio_New (cw f_ratio_New [I (w64 (w64 (a2 * c0) - w64 (c2 * a3))), I (w64 (a3 * w64 (c3 - c4)))] []) fun (r5 : GRatio × Int) =>
   brn (r5.snd != 0) (some (.tup [.agg (dGRatio.enc (⟨0, 0⟩)), I r5.snd], []))
   (callD r_ratio_Add (cw f_ratio_Add [.agg (dGRatio.enc r1.fst), .agg (dGRatio.enc r5.fst)] []) fun (r6 : GRatio × Int) =>
    some (.tup [.agg (dGRatio.enc r6.fst), I r6.snd], [])))) = some y) : cw f_equating_number [.sl 1 (List.map dI_i64.enc a0), I a1, I a2, I a3] [] = some y :=
  callw_tree R_equating_number zT [] (by kernel_rfl) (by kernel_rfl) (by kernel_rfl) (by kernel_rfl) (by kernel_rfl) h

theorem e_conversion_Valid (a0 : GCurve) {y : AV × Mem} (h : (
  brn (decide (2 ≤ (↑(List.map dGPoint.enc a0.Points).length : Int))) (brn (decide ((↑(List.map dGPoint.enc a0.Points).length : Int) ≤ 410)) (callD r_conversion_ascending (cw f_conversion_ascending [.sl 4 (List.map dGPoint.enc a0.Points)] []) fun (r0 : Bool) =>
    some (B r0, []))
   (some (B false, [])))
  (some (B false, []))) = some y) : cw f_conversion_Valid [.agg (dGCurve.enc a0)] [] = some y :=
  callw_tree R_conversion_Valid zT [] (by kernel_rfl) (by kernel_rfl) (by kernel_rfl) (by kernel_rfl) (by kernel_rfl) h

theorem e_conversion_eval (a0 : List GPoint) (a1 : GRatio) {y : AV × Mem} (h : (
  callD r_sort_Search (cw f_sort_Search [I (w64 (w64 ((↑(List.map dGPoint.enc a0).length : Int) - 1) - 1)), .fn f_conversion_eval_1 [.fp [I a1.Num, I a1.Den], .fp [.sl 4 (List.map dGPoint.enc a0)]]] []) fun (r0 : Int) =>
  chk ((0 : Int) ≤ (w64 (w64 (1 + r0) - 1))) <|
  elemD dGPoint (List.map dGPoint.enc a0) ((w64 (w64 (1 + r0) - 1)).toNat) fun (c1 : GPoint) =>
  chk ((0 : Int) ≤ (w64 (1 + r0))) <|
  elemD dGPoint (List.map dGPoint.enc a0) ((w64 (1 + r0)).toNat) fun (c2 : GPoint) =>
  callD r_conversion_steps_slope (cw f_conversion_steps_slope [.loc 1000 1 0 0, .agg (dGPoint.enc c1), .agg (dGPoint.enc c2)] [(1000, ⟨1, ty_conversion_steps, [dGconversionSteps.enc ⟨0⟩], true⟩)]) fun (r3 : GRatio × GconversionSteps) =>
  callD r_conversion_steps_do (cw f_conversion_steps_do [.loc 1000 1 0 0, .fn f_ratio_Sub [], .agg (dGRatio.enc a1), .agg (dGRatio.enc c1.X)] [(1000, ⟨1, ty_conversion_steps, [dGconversionSteps.enc r3.snd], true⟩)]) fun (r4 : GRatio × GconversionSteps) =>
  callD r_conversion_steps_do (cw f_conversion_steps_do [.loc 1000 1 0 0, .fn f_ratio_Mul [], .agg (dGRatio.enc r4.fst), .agg (dGRatio.enc r3.fst)] [(1000, ⟨1, ty_conversion_steps, [dGconversionSteps.enc r4.snd], true⟩)]) fun (r5 : GRatio × GconversionSteps) =>
  callD r_conversion_steps_do (cw f_conversion_steps_do [.loc 1000 1 0 0, .fn f_ratio_Add [], .agg (dGRatio.enc c1.Y), .agg (dGRatio.enc r5.fst)] [(1000, ⟨1, ty_conversion_steps, [dGconversionSteps.enc r5.snd], true⟩)]) fun (r6 : GRatio × GconversionSteps) =>
  some (.tup [.agg (dGRatio.enc r6.fst), I r6.snd.e], [])) = some y) : cw f_conversion_eval [.sl 4 (List.map dGPoint.enc a0), .agg (dGRatio.enc a1)] [] = some y :=
  callw_tree R_conversion_eval zT [] (by kernel_rfl) (by kernel_rfl) (by kernel_rfl) (by kernel_rfl) (by kernel_rfl) h

theorem e_equating_both_Mean (a0 : GDistribution) (a1 : GDistribution) {y : AV × Mem} (h : (
  callD r_distribution_Valid (cw f_distribution_Valid [.agg (dGDistribution.enc a0)] []) fun (r0 : Bool) =>
  brn (!r0) (some (.tup [.agg (dGRatio.enc (⟨0, 0⟩)), .agg (dGRatio.enc (⟨0, 0⟩)), I 1], []))
  (callD r_distribution_Valid (cw f_distribution_Valid [.agg (dGDistribution.enc a1)] []) fun (r1 : Bool) =>
   brn (!r1) (some (.tup [.agg (dGRatio.enc (⟨0, 0⟩)), .agg (dGRatio.enc (⟨0, 0⟩)), I 1], []))
   (callD r_distribution_Count (cw f_distribution_Count [.agg (dGDistribution.enc a0)] []) fun (r2 : Int) =>
    brn (r2 == 0) (some (.tup [.agg (dGRatio.enc (⟨0, 0⟩)), .agg (dGRatio.enc (⟨0, 0⟩)), I 10], []))
    (callD r_distribution_Count (cw f_distribution_Count [.agg (dGDistribution.enc a1)] []) fun (r3 : Int) =>
     brn (r3 == 0) (some (.tup [.agg (dGRatio.enc (⟨0, 0⟩)), .agg (dGRatio.enc (⟨0, 0⟩)), I 10], []))
     (callD r_distribution_Mean (cw f_distribution_Mean [.agg (dGDistribution.enc a0)] []) fun (r4 : GRatio × Int) =>
      brn (r4.snd != 0) (some (.tup [.agg (dGRatio.enc (⟨0, 0⟩)), .agg (dGRatio.enc (⟨0, 0⟩)), I r4.snd], []))
      (callD r_distribution_Mean (cw f_distribution_Mean [.agg (dGDistribution.enc a1)] []) fun (r5 : GRatio × Int) =>
       brn (r5.snd != 0) (some (.tup [.agg (dGRatio.enc (⟨0, 0⟩)), .agg (dGRatio.enc (⟨0, 0⟩)), I r5.snd], []))
       (some (.tup [.agg (dGRatio.enc r4.fst), .agg (dGRatio.enc r5.fst), I 0], [])))))))) = some y) : cw f_equating_both [.agg (dGDistribution.enc a0), .agg (dGDistribution.enc a1), .fn f_distribution_Mean []] [] = some y :=
  callw_tree R_equating_both zT [] (by kernel_rfl) (by kernel_rfl) (by kernel_rfl) (by kernel_rfl) (by kernel_rfl) h

theorem e_equating_both_Deviation (a0 : GDistribution) (a1 : GDistribution) {y : AV × Mem} (h : (
  callD r_distribution_Valid (cw f_distribution_Valid [.agg (dGDistribution.enc a0)] []) fun (r0 : Bool) =>
  brn (!r0) (some (.tup [.agg (dGRatio.enc (⟨0, 0⟩)), .agg (dGRatio.enc (⟨0, 0⟩)), I 1], []))
  (callD r_distribution_Valid (cw f_distribution_Valid [.agg (dGDistribution.enc a1)] []) fun (r1 : Bool) =>
   brn (!r1) (some (.tup [.agg (dGRatio.enc (⟨0, 0⟩)), .agg (dGRatio.enc (⟨0, 0⟩)), I 1], []))
   (callD r_distribution_Count (cw f_distribution_Count [.agg (dGDistribution.enc a0)] []) fun (r2 : Int) =>
    brn (r2 == 0) (some (.tup [.agg (dGRatio.enc (⟨0, 0⟩)), .agg (dGRatio.enc (⟨0, 0⟩)), I 10], []))
    (callD r_distribution_Count (cw f_distribution_Count [.agg (dGDistribution.enc a1)] []) fun (r3 : Int) =>
     brn (r3 == 0) (some (.tup [.agg (dGRatio.enc (⟨0, 0⟩)), .agg (dGRatio.enc (⟨0, 0⟩)), I 10], []))
     (callD r_distribution_Deviation (cw f_distribution_Deviation [.agg (dGDistribution.enc a0)] []) fun (r4 : GRatio × Int) =>
      brn (r4.snd != 0) (some (.tup [.agg (dGRatio.enc (⟨0, 0⟩)), .agg (dGRatio.enc (⟨0, 0⟩)), I r4.snd], []))
      (callD r_distribution_Deviation (cw f_distribution_Deviation [.agg (dGDistribution.enc a1)] []) fun (r5 : GRatio × Int) =>
       brn (r5.snd != 0) (some (.tup [.agg (dGRatio.enc (⟨0, 0⟩)), .agg (dGRatio.enc (⟨0, 0⟩)), I r5.snd], []))
       (some (.tup [.agg (dGRatio.enc r4.fst), .agg (dGRatio.enc r5.fst), I 0], [])))))))) = some y) : cw f_equating_both [.agg (dGDistribution.enc a0), .agg (dGDistribution.enc a1), .fn f_distribution_Deviation []] [] = some y :=
  callw_tree R_equating_both zT [] (by kernel_rfl) (by kernel_rfl) (by kernel_rfl) (by kernel_rfl) (by kernel_rfl) h

theorem e_distribution_Mean (a0 : GDistribution) {y : AV × Mem} (h : (
  callD r_distribution_check (cw f_distribution_check [.agg (dGDistribution.enc a0)] []) fun (r0 : Int × Int) =>
  brn (r0.snd != 0) (some (.tup [.agg (dGRatio.enc (⟨0, 0⟩)), I r0.snd], []))
  (callD r_distribution_sumOfScores (cw f_distribution_sumOfScores [.agg (dGDistribution.enc a0)] []) fun (r1 : Int) =>
   callD r_ratio_New (cw f_ratio_New [I r1, I r0.fst] []) fun (r2 : GRatio × Int) =>
   some (.tup [.agg (dGRatio.enc r2.fst), I r2.snd], []))) = some y) : cw f_distribution_Mean [.agg (dGDistribution.enc a0)] [] = some y :=
  callw_tree R_distribution_Mean zT [] (by kernel_rfl) (by kernel_rfl) (by kernel_rfl) (by kernel_rfl) (by kernel_rfl) h

theorem e_equating_through (a0 : GRatio) (a1 : GRatio) (a2 : GRatio) {y : AV × Mem} (h : (
  callD r_ratio_Mul (cw f_ratio_Mul [.agg (dGRatio.enc a0), .agg (dGRatio.enc a1)] []) fun (r0 : GRatio × Int) =>
  brn (r0.snd != 0) (some (.tup [.agg (dGCurve.enc ⟨[]⟩), I r0.snd], []))
  (callD r_ratio_Sub (cw f_ratio_Sub [.agg (dGRatio.enc a2), .agg (dGRatio.enc r0.fst)] []) fun (r1 : GRatio × Int) =>
   brn (r1.snd != 0) (some (.tup [.agg (dGCurve.enc ⟨[]⟩), I r1.snd], []))
   (callD r_conversion_Line (cw f_conversion_Line [.agg (dGRatio.enc a0), .agg (dGRatio.enc r1.fst)] []) fun (r2 : GCurve × Int) =>
    some (.tup [.agg (dGCurve.enc r2.fst), I r2.snd], [])))) = some y) : cw f_equating_through [.agg (dGRatio.enc a0), .agg (dGRatio.enc a1), .agg (dGRatio.enc a2)] [] = some y :=
  callw_tree R_equating_through zT [] (by kernel_rfl) (by kernel_rfl) (by kernel_rfl) (by kernel_rfl) (by kernel_rfl) h

noncomputable def k_ratio_gcd_1 (x0 : Int) (x1 : Int) : Option (AV × Mem) := pt R_ratio_gcd 1 ⟨[(0, .v (.int .u64 x0)), (1, .v (.int .u64 x1))], []⟩

theorem t_ratio_gcd_1 (x0 : Int) (x1 : Int) {y : AV × Mem} (h : (
  brn (x1 != 0) (chk ((x1 : Int) ≠ 0) <|
   k_ratio_gcd_1 x1 (x0.tmod x1))
  (some (.v (.int .u64 x0), []))) = some y) : k_ratio_gcd_1 x0 x1 = some y :=
  pt_of zT [] (by kernel_rfl) h

theorem e_ratio_gcd (a0 : Int) (a1 : Int) {y : AV × Mem} (h : (
  k_ratio_gcd_1 a0 a1) = some y) : cw f_ratio_gcd [.v (.int .u64 a0), .v (.int .u64 a1)] [] = some y :=
  callw_tree R_ratio_gcd zT [] (by kernel_rfl) (by kernel_rfl) (by kernel_rfl) (by kernel_rfl) (by kernel_rfl) h

theorem e_ratio_magnitude (a0 : Int) {y : AV × Mem} (h : (
  brn (decide (a0 < 0)) (some (.v (.int .u64 (wu64 (0 - wu64 a0))), []))
  (some (.v (.int .u64 (wu64 a0)), []))) = some y) : cw f_ratio_magnitude [I a0] [] = some y :=
  callw_tree R_ratio_magnitude zT [] (by kernel_rfl) (by kernel_rfl) (by kernel_rfl) (by kernel_rfl) (by kernel_rfl) h

theorem e_ratio_signedProduct (a0 : Int) (a1 : Int) {y : AV × Mem} (h : (
  callD r_ratio_magnitude (cw f_ratio_magnitude [I a0] []) fun (r0 : Int) =>
  callD r_ratio_product (cw f_ratio_product [.v (.int .u64 r0), .v (.int .u64 a1)] []) fun (r1 : GratioWide) =>
  some (.agg (dGratioSigned.enc (⟨decide (a0 < 0), ⟨r1.hi, r1.lo⟩⟩)), [])) = some y) : cw f_ratio_signedProduct [I a0, .v (.int .u64 a1)] [] = some y :=
  callw_tree R_ratio_signedProduct zT [] (by kernel_rfl) (by kernel_rfl) (by kernel_rfl) (by kernel_rfl) (by kernel_rfl) h

theorem e_ratio_signed_plus (a0 : GratioSigned) (a1 : GratioSigned) {y : AV × Mem} (h : (
  brn (a0.neg == a1.neg) (callD r_ratio_wide_plus (cw f_ratio_wide_plus [.agg (dGratioWide.enc a0.abs), .agg (dGratioWide.enc a1.abs)] []) fun (r0 : GratioWide) =>
   some (.agg (dGratioSigned.enc (⟨a0.neg, ⟨r0.hi, r0.lo⟩⟩)), []))
  (callD r_ratio_wide_compare (cw f_ratio_wide_compare [.agg (dGratioWide.enc a0.abs), .agg (dGratioWide.enc a1.abs)] []) fun (r1 : Int) =>
   brn (decide (0 ≤ r1)) (callD r_ratio_wide_minus (cw f_ratio_wide_minus [.agg (dGratioWide.enc a0.abs), .agg (dGratioWide.enc a1.abs)] []) fun (r2 : GratioWide) =>
    some (.agg (dGratioSigned.enc (⟨a0.neg, ⟨r2.hi, r2.lo⟩⟩)), []))
   (callD r_ratio_wide_minus (cw f_ratio_wide_minus [.agg (dGratioWide.enc a1.abs), .agg (dGratioWide.enc a0.abs)] []) fun (r3 : GratioWide) =>
    some (.agg (dGratioSigned.enc (⟨a1.neg, ⟨r3.hi, r3.lo⟩⟩)), [])))) = some y) : cw f_ratio_signed_plus [.agg (dGratioSigned.enc a0), .agg (dGratioSigned.enc a1)] [] = some y :=
  callw_tree R_ratio_signed_plus zT [] (by kernel_rfl) (by kernel_rfl) (by kernel_rfl) (by kernel_rfl) (by kernel_rfl) h

theorem e_ratio_wide_mod (a0 : GratioWide) (a1 : Int) {y : AV × Mem} (h : (
  callD r_bits_Rem64 (cw f_bits_Rem64 [.v (.int .u64 a0.hi), .v (.int .u64 a0.lo), .v (.int .u64 a1)] []) fun (r0 : Int) =>
  some (.v (.int .u64 r0), [])) = some y) : cw f_ratio_wide_mod [.agg (dGratioWide.enc a0), .v (.int .u64 a1)] [] = some y :=
  callw_tree R_ratio_wide_mod zT [] (by kernel_rfl) (by kernel_rfl) (by kernel_rfl) (by kernel_rfl) (by kernel_rfl) h

theorem e_ratio_fitted (a0 : Bool) (a1 : GratioWide) (a2 : GratioWide) {y : AV × Mem} (h : (
  brn (a1.hi != 0) (some (.tup [.agg (dGRatio.enc (⟨0, 0⟩)), I 6], []))
  (brn (a2.hi != 0) (some (.tup [.agg (dGRatio.enc (⟨0, 0⟩)), I 6], []))
   (brn (decide (1152921504606846976 < a1.lo)) (some (.tup [.agg (dGRatio.enc (⟨0, 0⟩)), I 6], []))
    (brn (decide (1152921504606846976 < a2.lo)) (some (.tup [.agg (dGRatio.enc (⟨0, 0⟩)), I 6], []))
     (brn a0 (some (.tup [.agg (dGRatio.enc (⟨w64 (0 - w64 a1.lo), w64 a2.lo⟩)), I 0], []))
      (some (.tup [.agg (dGRatio.enc (⟨w64 a1.lo, w64 a2.lo⟩)), I 0], []))))))) = some y) : cw f_ratio_fitted [B a0, .agg (dGratioWide.enc a1), .agg (dGratioWide.enc a2)] [] = some y :=
  callw_tree R_ratio_fitted zT [] (by kernel_rfl) (by kernel_rfl) (by kernel_rfl) (by kernel_rfl) (by kernel_rfl) h

theorem e_ratio_wide_over (a0 : GratioWide) (a1 : Int) {y : AV × Mem} (h : (
  chk ((a1 : Int) ≠ 0) <|
  chk ((a1 : Int) ≠ 0) <|
  callD r_bits_Div64 (cw f_bits_Div64 [.v (.int .u64 (a0.hi.tmod a1)), .v (.int .u64 a0.lo), .v (.int .u64 a1)] []) fun (r0 : Int × Int) =>
  some (.agg (dGratioWide.enc (⟨wu64 (a0.hi.tdiv a1), r0.fst⟩)), [])) = some y) : cw f_ratio_wide_over [.agg (dGratioWide.enc a0), .v (.int .u64 a1)] [] = some y :=
  callw_tree R_ratio_wide_over zT [] (by kernel_rfl) (by kernel_rfl) (by kernel_rfl) (by kernel_rfl) (by kernel_rfl) h

theorem e_ratio_product (a0 : Int) (a1 : Int) {y : AV × Mem} (h : (
  callD r_bits_Mul64 (cw f_bits_Mul64 [.v (.int .u64 a0), .v (.int .u64 a1)] []) fun (r0 : Int × Int) =>
  some (.agg (dGratioWide.enc (⟨r0.fst, r0.snd⟩)), [])) = some y) : cw f_ratio_product [.v (.int .u64 a0), .v (.int .u64 a1)] [] = some y :=
  callw_tree R_ratio_product zT [] (by kernel_rfl) (by kernel_rfl) (by kernel_rfl) (by kernel_rfl) (by kernel_rfl) h

noncomputable def k_distribution_Deviation_1 (a0 : GDistribution) (r0 : Int × Int) (r1 : Int) (x2 : Int) (x3 : Int) : Option (AV × Mem) := pt R_distribution_Deviation 1 ⟨[(2, .loc 2 2 0 0), (4, I r0.fst), (6, I r1), (7, I x2), (23, .sl 1 (List.map dI_i64.enc a0.Counts)), (24, I ((↑(List.map dI_i64.enc a0.Counts).length : Int))), (25, I x3)], [(2, ⟨2, ty_api_Ratio, [dGRatio.enc (⟨0, 0⟩)], true⟩)]⟩

theorem t_distribution_Deviation_1 (a0 : GDistribution) (r0 : Int × Int) (r1 : Int) (x2 : Int) (x3 : Int) {y : AV × Mem} (h : (
  brn (decide (x3 < (↑(List.map dI_i64.enc a0.Counts).length : Int))) (chk ((0 : Int) ≤ x3) <|
   elemD dI_i64 (List.map dI_i64.enc a0.Counts) x3.toNat fun (c4 : Int) =>
   k_distribution_Deviation_1 a0 r0 r1 (w64 (x2 + w64 (c4 * if w64 (0 - w64 (w64 (x3 * r0.fst) - r1)) > w64 (w64 (x3 * r0.fst) - r1) then w64 (0 - w64 (w64 (x3 * r0.fst) - r1)) else w64 (w64 (x3 * r0.fst) - r1)))) (w64 (x3 + 1)))
  (callD r_ratio_New (cw f_ratio_New [I x2, I (w64 (r0.fst * r0.fst))] []) fun (r5 : GRatio × Int) =>
   some (.tup [.agg (dGRatio.enc r5.fst), I r5.snd], []))) = some y) : k_distribution_Deviation_1 a0 r0 r1 x2 x3 = some y :=
  pt_of zT [] (by kernel_rfl) h

theorem e_distribution_Deviation (a0 : GDistribution) {y : AV × Mem} (h : (
  callD r_distribution_check (cw f_distribution_check [.agg (dGDistribution.enc a0)] []) fun (r0 : Int × Int) =>
  brn (r0.snd != 0) (some (.tup [.agg (dGRatio.enc (⟨0, 0⟩)), I r0.snd], []))
  (callD r_distribution_sumOfScores (cw f_distribution_sumOfScores [.agg (dGDistribution.enc a0)] []) fun (r1 : Int) =>
   k_distribution_Deviation_1 a0 r0 r1 0 0)) = some y) : cw f_distribution_Deviation [.agg (dGDistribution.enc a0)] [] = some y :=
  callw_tree R_distribution_Deviation zT [] (by kernel_rfl) (by kernel_rfl) (by kernel_rfl) (by kernel_rfl) (by kernel_rfl) h

theorem e_ratio_Div (a0 : GRatio) (a1 : GRatio) {y : AV × Mem} (h : (
  callD r_ratio_Valid (cw f_ratio_Valid [.agg (dGRatio.enc a0)] []) fun (r0 : Bool) =>
  brn (!r0) (some (.tup [.agg (dGRatio.enc (⟨0, 0⟩)), I 1], []))
  (callD r_ratio_Valid (cw f_ratio_Valid [.agg (dGRatio.enc a1)] []) fun (r1 : Bool) =>
   brn (!r1) (some (.tup [.agg (dGRatio.enc (⟨0, 0⟩)), I 1], []))
   (brn (a1.Num == 0) (some (.tup [.agg (dGRatio.enc (⟨0, 0⟩)), I 2], []))
    (brn (decide (a1.Num < 0)) (callD r_ratio_Mul (cw f_ratio_Mul [.agg (dGRatio.enc a0), .agg (dGRatio.enc (⟨w64 (0 - a1.Den), w64 (0 - a1.Num)⟩))] []) fun (r2 : GRatio × Int) =>
      some (.tup [.agg (dGRatio.enc r2.fst), I r2.snd], []))
     (callD r_ratio_Mul (cw f_ratio_Mul [.agg (dGRatio.enc a0), .agg (dGRatio.enc (⟨a1.Den, a1.Num⟩))] []) fun (r3 : GRatio × Int) =>
      some (.tup [.agg (dGRatio.enc r3.fst), I r3.snd], [])))))) = some y) : cw f_ratio_Div [.agg (dGRatio.enc a0), .agg (dGRatio.enc a1)] [] = some y :=
  callw_tree R_ratio_Div zT [] (by kernel_rfl) (by kernel_rfl) (by kernel_rfl) (by kernel_rfl) (by kernel_rfl) h

noncomputable def k_conversion_exchanged_1 (a0 : List GPoint) (x0 : List (List AV)) (x1 : Int) : Option (AV × Mem) := pt R_conversion_exchanged 1 ⟨[(3, .row 8 4 0 ((List.replicate (↑(List.map dGPoint.enc a0).length : Int).toNat (AV.v (Go.Value.int IntKind.i64 0) :: AV.v (Go.Value.int IntKind.i64 0) :: AV.v (Go.Value.int IntKind.i64 0) :: AV.v (Go.Value.int IntKind.i64 0) :: List.map AV.v [])).length)), (9, .sl 4 (List.map dGPoint.enc a0)), (10, I ((↑(List.map dGPoint.enc a0).length : Int))), (11, I x1)], [(8, ⟨4, ty_api_Point, x0, false⟩)]⟩

theorem t_conversion_exchanged_1 (a0 : List GPoint) (x0 : List (List AV)) (x1 : Int) {y : AV × Mem} (h : (
  brn (decide (x1 < (↑(List.map dGPoint.enc a0).length : Int))) (chk ((0 : Int) ≤ x1) <|
   elemD dGPoint (List.map dGPoint.enc a0) x1.toNat fun (c2 : GPoint) =>
   chk ((0 : Int) ≤ x1) <|
   chk ((x1 : Int) < ((↑(List.replicate (↑(List.map dGPoint.enc a0).length : Int).toNat (AV.v (Go.Value.int IntKind.i64 0) :: AV.v (Go.Value.int IntKind.i64 0) :: AV.v (Go.Value.int IntKind.i64 0) :: AV.v (Go.Value.int IntKind.i64 0) :: List.map AV.v [])).length : Int))) <|
   elemD dGPoint x0 (0 + x1.toNat) fun (c3 : GPoint) =>
   k_conversion_exchanged_1 a0 (List.set x0 (0 + x1.toNat) (dGPoint.enc (⟨⟨c2.Y.Num, c2.Y.Den⟩, ⟨c2.X.Num, c2.X.Den⟩⟩))) (w64 (x1 + 1)))
  (chk ((List.replicate (↑(List.map dGPoint.enc a0).length : Int).toNat (AV.v (Go.Value.int IntKind.i64 0) :: AV.v (Go.Value.int IntKind.i64 0) :: AV.v (Go.Value.int IntKind.i64 0) :: AV.v (Go.Value.int IntKind.i64 0) :: List.map AV.v [])).length = x0.length) <|
   some (.new 4 ty_api_Point x0, []))) = some y) : k_conversion_exchanged_1 a0 x0 x1 = some y :=
  pt_of zT [] (by kernel_rfl) h

theorem e_conversion_exchanged (a0 : List GPoint) {y : AV × Mem} (h : (
  chk (((↑(List.map dGPoint.enc a0).length : Int) : Int) = ((↑(List.map dGPoint.enc a0).length : Int))) <|
  chk ((0 : Int) ≤ ((↑(List.map dGPoint.enc a0).length : Int))) <|
  chk ((↑(List.map dGPoint.enc a0).length : Int).toNat * (32 + 1) ≤ 1099511627776) <|
  k_conversion_exchanged_1 a0 (List.replicate ((↑(List.map dGPoint.enc a0).length : Int).toNat) (dGPoint.enc (⟨⟨0, 0⟩, ⟨0, 0⟩⟩))) 0) = some y) : cw f_conversion_exchanged [.sl 4 (List.map dGPoint.enc a0)] [] = some y :=
  callw_tree R_conversion_exchanged zT [] (by kernel_rfl) (by kernel_rfl) (by kernel_rfl) (by kernel_rfl) (by kernel_rfl) h

theorem e_slices_SortFunc_api_Ratio_api_Ratio (a0 : List GRatio) {y : AV × Mem} (h : (
  callD r_bits_Len (cw f_bits_Len [.v (.int .u64 (wu64 (↑(List.map dGRatio.enc a0).length : Int)))] []) fun (r0 : Int) =>
  callD r_slices_pdqsortCmpFunc_api_Ratio (cw f_slices_pdqsortCmpFunc_api_Ratio [.row 1000 2 0 (List.length (List.map dGRatio.enc a0)), I 0, I ((↑(List.map dGRatio.enc a0).length : Int)), I r0, .fn f_ratio_Compare []] [(1000, ⟨2, ty_api_Ratio, List.map dGRatio.enc a0, false⟩)]) fun (r1 : (List GRatio)) =>
  some (.tup [], [(1000, ⟨2, ty_api_Ratio, List.map dGRatio.enc r1, false⟩)])) = some y) : cw f_slices_SortFunc_api_Ratio_api_Ratio [.row 1000 2 0 (List.length (List.map dGRatio.enc a0)), .fn f_ratio_Compare []] [(1000, ⟨2, ty_api_Ratio, List.map dGRatio.enc a0, false⟩)] = some y :=
  callw_tree R_slices_SortFunc_api_Ratio_api_Ratio zT [] (by kernel_rfl) (by kernel_rfl) (by kernel_rfl) (by kernel_rfl) (by kernel_rfl) h

theorem e_ratio_Compare (a0 : GRatio) (a1 : GRatio) {y : AV × Mem} (h : (
  callD r_ratio_Valid (cw f_ratio_Valid [.agg (dGRatio.enc a0)] []) fun (r0 : Bool) =>
  brn (!r0) (some (I 0, []))
  (callD r_ratio_Valid (cw f_ratio_Valid [.agg (dGRatio.enc a1)] []) fun (r1 : Bool) =>
   brn (!r1) (some (I 0, []))
   (callD r_ratio_signedProduct (cw f_ratio_signedProduct [I a0.Num, .v (.int .u64 (wu64 a1.Den))] []) fun (r2 : GratioSigned) =>
    callD r_ratio_signedProduct (cw f_ratio_signedProduct [I a1.Num, .v (.int .u64 (wu64 a0.Den))] []) fun (r3 : GratioSigned) =>
    brn r2.neg (brn r3.neg (callD r_ratio_wide_compare (cw f_ratio_wide_compare [.agg (dGratioWide.enc r3.abs), .agg (dGratioWide.enc r2.abs)] []) fun (r4 : Int) =>
      some (I r4, []))
     (brn r2.neg (some (I (-1), []))
      (brn r3.neg (some (I 1, []))
       (callD r_ratio_wide_compare (cw f_ratio_wide_compare [.agg (dGratioWide.enc r2.abs), .agg (dGratioWide.enc r3.abs)] []) fun (r5 : Int) =>
        some (I r5, [])))))
    (brn r2.neg (some (I (-1), []))
     (brn r3.neg (some (I 1, []))
      (callD r_ratio_wide_compare (cw f_ratio_wide_compare [.agg (dGratioWide.enc r2.abs), .agg (dGratioWide.enc r3.abs)] []) fun (r6 : Int) =>
       some (I r6, []))))))) = some y) : cw f_ratio_Compare [.agg (dGRatio.enc a0), .agg (dGRatio.enc a1)] [] = some y :=
  callw_tree R_ratio_Compare zT [] (by kernel_rfl) (by kernel_rfl) (by kernel_rfl) (by kernel_rfl) (by kernel_rfl) h

noncomputable def k_slices_Compact_api_Ratio_api_Ratio_1 (a0 : List GRatio) (x0 : Int) : Option (AV × Mem) := pt R_slices_Compact_api_Ratio_api_Ratio 1 ⟨[(0, .row 1000 2 0 (List.length (List.map dGRatio.enc a0))), (3, I x0)], [(1000, ⟨2, ty_api_Ratio, List.map dGRatio.enc a0, false⟩)]⟩

noncomputable def k_slices_Compact_api_Ratio_api_Ratio_2 (a0 : List GRatio) (x0 : Int) (x3 : List (List AV)) (x4 : Int) (x5 : Int) : Option (AV × Mem) := pt R_slices_Compact_api_Ratio_api_Ratio 2 ⟨[(0, .row 1000 2 0 ((List.map dGRatio.enc a0).length)), (3, I x4), (4, .row 1000 2 (0 + x0.toNat) ((List.map dGRatio.enc a0).length - x0.toNat)), (5, I x5)], [(1000, ⟨2, ty_api_Ratio, x3, false⟩)]⟩

theorem t_slices_Compact_api_Ratio_api_Ratio_1 (a0 : List GRatio) (x0 : Int) {y : AV × Mem} (h : (
  brn (decide (x0 < (↑(List.map dGRatio.enc a0).length : Int))) (chk ((0 : Int) ≤ x0) <|
   chk ((x0 : Int) < ((↑(List.map dGRatio.enc a0).length : Int))) <|
   elemD dGRatio (List.map dGRatio.enc a0) (0 + x0.toNat) fun (c1 : GRatio) =>
   chk ((0 : Int) ≤ (w64 (x0 - 1))) <|
   chk ((w64 (x0 - 1) : Int) < ((↑(List.map dGRatio.enc a0).length : Int))) <|
   elemD dGRatio (List.map dGRatio.enc a0) (0 + (w64 (x0 - 1)).toNat) fun (c2 : GRatio) =>
   brn (c1.Num == c2.Num && (c1.Den == c2.Den && true)) (chk ((0 : Int) ≤ x0) <|
    chk (x0.toNat ≤ (List.map dGRatio.enc a0).length) <|
    chk ((List.map dGRatio.enc a0).length ≤ (List.map dGRatio.enc a0).length) <|
    k_slices_Compact_api_Ratio_api_Ratio_2 a0 x0 (List.map dGRatio.enc a0) x0 1)
   (k_slices_Compact_api_Ratio_api_Ratio_1 a0 (w64 (x0 + 1))))
  (some (.row 1000 2 0 ((List.map dGRatio.enc a0).length), [(1000, ⟨2, ty_api_Ratio, List.map dGRatio.enc a0, false⟩)]))) = some y) : k_slices_Compact_api_Ratio_api_Ratio_1 a0 x0 = some y :=
  pt_of zT [] (by kernel_rfl) h

theorem t_slices_Compact_api_Ratio_api_Ratio_2 (a0 : List GRatio) (x0 : Int) (x3 : List (List AV)) (x4 : Int) (x5 : Int) {y : AV × Mem} (h : (
  brn (decide (x5 < (↑((List.map dGRatio.enc a0).length - x0.toNat) : Int))) (chk ((0 : Int) ≤ x5) <|
   chk ((x5 : Int) < ((↑((List.map dGRatio.enc a0).length - x0.toNat) : Int))) <|
   elemD dGRatio x3 (0 + x0.toNat + x5.toNat) fun (c6 : GRatio) =>
   chk ((0 : Int) ≤ (w64 (x5 - 1))) <|
   chk ((w64 (x5 - 1) : Int) < ((↑((List.map dGRatio.enc a0).length - x0.toNat) : Int))) <|
   elemD dGRatio x3 (0 + x0.toNat + (w64 (x5 - 1)).toNat) fun (c7 : GRatio) =>
   brn (!(c6.Num == c7.Num && (c6.Den == c7.Den && true))) (chk ((0 : Int) ≤ x5) <|
    chk ((x5 : Int) < ((↑((List.map dGRatio.enc a0).length - x0.toNat) : Int))) <|
    elemD dGRatio x3 (0 + x0.toNat + x5.toNat) fun (c8 : GRatio) =>
    chk ((0 : Int) ≤ x4) <|
    chk ((x4 : Int) < ((↑(List.map dGRatio.enc a0).length : Int))) <|
    elemD dGRatio x3 (0 + x4.toNat) fun (c9 : GRatio) =>
    k_slices_Compact_api_Ratio_api_Ratio_2 a0 x0 (List.set x3 (0 + x4.toNat) (dGRatio.enc c8)) (w64 (x4 + 1)) (w64 (x5 + 1)))
   (k_slices_Compact_api_Ratio_api_Ratio_2 a0 x0 x3 x4 (w64 (x5 + 1))))
  (chk ((0 : Int) ≤ x4) <|
   chk (x4.toNat ≤ (List.map dGRatio.enc a0).length) <|
   chk ((List.map dGRatio.enc a0).length ≤ (List.map dGRatio.enc a0).length) <|
   chk (0 + x4.toNat + ((List.map dGRatio.enc a0).length - x4.toNat) ≤ x3.length) <|
   chk ((0 : Int) ≤ x4) <|
   chk (0 ≤ x4.toNat) <|
   chk (x4.toNat ≤ (List.map dGRatio.enc a0).length) <|
   some (.row 1000 2 (0 + 0) (x4.toNat - 0), [(1000, ⟨2, ty_api_Ratio, ((List.take (0 + x4.toNat) x3) ++ (List.replicate ((List.map dGRatio.enc a0).length - x4.toNat) (dGRatio.enc (⟨0, 0⟩)))) ++ (List.drop (0 + x4.toNat + ((List.map dGRatio.enc a0).length - x4.toNat)) x3), false⟩)]))) = some y) : k_slices_Compact_api_Ratio_api_Ratio_2 a0 x0 x3 x4 x5 = some y :=
  pt_of zT [] (by kernel_rfl) h

theorem e_slices_Compact_api_Ratio_api_Ratio (a0 : List GRatio) {y : AV × Mem} (h : (
  brn (decide ((↑(List.map dGRatio.enc a0).length : Int) < 2)) (some (.row 1000 2 0 ((List.map dGRatio.enc a0).length), [(1000, ⟨2, ty_api_Ratio, List.map dGRatio.enc a0, false⟩)]))
  (k_slices_Compact_api_Ratio_api_Ratio_1 a0 1)) = some y) : cw f_slices_Compact_api_Ratio_api_Ratio [.row 1000 2 0 (List.length (List.map dGRatio.enc a0))] [(1000, ⟨2, ty_api_Ratio, List.map dGRatio.enc a0, false⟩)] = some y :=
  callw_tree R_slices_Compact_api_Ratio_api_Ratio zT [] (by kernel_rfl) (by kernel_rfl) (by kernel_rfl) (by kernel_rfl) (by kernel_rfl) h

end Go.Proofs.Ytapkemilafogjaa
