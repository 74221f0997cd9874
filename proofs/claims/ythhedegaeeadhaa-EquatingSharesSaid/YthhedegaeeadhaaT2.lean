/- What the functions compute, between two cut points: printed by a program, checked by the kernel. -/
import Derived.Test.YthhedegaeeadhaaAnn
namespace Go.Proofs.Ythhedegaeeadhaa
open Go.Ab
set_option maxRecDepth 100000
set_option linter.unusedVariables false

theorem e_conversion_Eval (a0 : GCurve) (a1 : GRatio) {y : AV × Mem} (h : (
  callD r_conversion_Valid (cw f_conversion_Valid [.agg (dGCurve.enc a0)] []) fun (r0 : Bool) =>
  brn (!r0) (some (.tup [.agg (dGRatio.enc (⟨0, 0⟩)), I 1], []))
  (callD r_ratio_Valid (cw f_ratio_Valid [.agg (dGRatio.enc a1)] []) fun (r1 : Bool) =>
   brn (!r1) (some (.tup [.agg (dGRatio.enc (⟨0, 0⟩)), I 1], []))
   (callD r_conversion_eval (cw f_conversion_eval [.sl 4 (List.map dGPoint.enc a0.Points), .agg (dGRatio.enc a1)] []) fun (r2 : GRatio × Int) =>
    some (.tup [.agg (dGRatio.enc r2.fst), I r2.snd], [])))) = some y) : cw f_conversion_Eval [.agg (dGCurve.enc a0), .agg (dGRatio.enc a1)] [] = some y :=
  callw_tree R_conversion_Eval zT [] (by kernel_rfl) (by kernel_rfl) (by kernel_rfl) (by kernel_rfl) (by kernel_rfl) h

noncomputable def k_ref32_Below_1 (a0 : GDistribution) (a1 : Int) (x0 : Int) (x1 : Int) : Option (AV × Mem) := pt R_ref32_Below 1 ⟨[(1, I a1), (2, .loc 2 1 0 0), (5, I x0), (6, I x1)], [(2, ⟨1, ty_api_Distribution, [dGDistribution.enc a0], true⟩)]⟩

theorem t_ref32_Below_1 (a0 : GDistribution) (a1 : Int) (x0 : Int) (x1 : Int) {y : AV × Mem} (h : (
  brn (decide (x1 < (↑(List.map dI_i64.enc a0.Counts).length : Int))) (brn (decide (x1 < a1)) (callD r_ref32_Valid (cw f_ref32_Valid [.agg (dGDistribution.enc a0)] []) fun (r2 : Bool) =>
    brn r2 (chk ((0 : Int) ≤ x1) <|
     elemD dI_i64 (List.map dI_i64.enc a0.Counts) x1.toNat fun (c3 : Int) =>
     k_ref32_Below_1 a0 a1 (w64 (x0 + c3)) (w64 (x1 + 1)))
    (some (I x0, [])))
   (some (I x0, [])))
  (some (I x0, []))) = some y) : k_ref32_Below_1 a0 a1 x0 x1 = some y :=
  pt_of zT [] (by kernel_rfl) h

theorem e_ref32_Below (a0 : GDistribution) (a1 : Int) {y : AV × Mem} (h : (
  k_ref32_Below_1 a0 a1 0 0) = some y) : cw f_ref32_Below [.agg (dGDistribution.enc a0), I a1] [] = some y :=
  callw_tree R_ref32_Below zT [] (by kernel_rfl) (by kernel_rfl) (by kernel_rfl) (by kernel_rfl) (by kernel_rfl) h

theorem e_equating_Mean (a0 : GDistribution) (a1 : GDistribution) {y : AV × Mem} (h : (
  callD r_equating_both (cw f_equating_both [.agg (dGDistribution.enc a0), .agg (dGDistribution.enc a1), .fn f_distribution_Mean []] []) fun (r0 : GRatio × GRatio × Int) =>
  brn (r0.snd.snd != 0) (some (.tup [.agg (dGCurve.enc ⟨[]⟩), I r0.snd.snd], []))
  (callD r_equating_through (cw f_equating_through [.agg (dGRatio.enc (⟨1, 1⟩)), .agg (dGRatio.enc r0.fst), .agg (dGRatio.enc r0.snd.fst)] []) fun (r1 : GCurve × Int) =>
   some (.tup [.agg (dGCurve.enc r1.fst), I r1.snd], []))) = some y) : cw f_equating_Mean [.agg (dGDistribution.enc a0), .agg (dGDistribution.enc a1)] [] = some y :=
  callw_tree R_equating_Mean zT [] (by kernel_rfl) (by kernel_rfl) (by kernel_rfl) (by kernel_rfl) (by kernel_rfl) h

theorem e_equating_Linear (a0 : GDistribution) (a1 : GDistribution) {y : AV × Mem} (h : (
  callD r_equating_both (cw f_equating_both [.agg (dGDistribution.enc a0), .agg (dGDistribution.enc a1), .fn f_distribution_Deviation []] []) fun (r0 : GRatio × GRatio × Int) =>
  brn (r0.snd.snd != 0) (some (.tup [.agg (dGCurve.enc ⟨[]⟩), I r0.snd.snd], []))
  (brn (r0.fst.Num == 0) (some (.tup [.agg (dGCurve.enc ⟨[]⟩), I 10], []))
   (brn (r0.snd.fst.Num == 0) (some (.tup [.agg (dGCurve.enc ⟨[]⟩), I 10], []))
    (callD r_equating_both (cw f_equating_both [.agg (dGDistribution.enc a0), .agg (dGDistribution.enc a1), .fn f_distribution_Mean []] []) fun (r1 : GRatio × GRatio × Int) =>
     brn (r1.snd.snd != 0) (some (.tup [.agg (dGCurve.enc ⟨[]⟩), I r1.snd.snd], []))
     (callD r_ratio_Div (cw f_ratio_Div [.agg (dGRatio.enc r0.snd.fst), .agg (dGRatio.enc r0.fst)] []) fun (r2 : GRatio × Int) =>
      brn (r2.snd != 0) (some (.tup [.agg (dGCurve.enc ⟨[]⟩), I r2.snd], []))
      (callD r_equating_through (cw f_equating_through [.agg (dGRatio.enc r2.fst), .agg (dGRatio.enc r1.fst), .agg (dGRatio.enc r1.snd.fst)] []) fun (r3 : GCurve × Int) =>
       some (.tup [.agg (dGCurve.enc r3.fst), I r3.snd], []))))))) = some y) : cw f_equating_Linear [.agg (dGDistribution.enc a0), .agg (dGDistribution.enc a1)] [] = some y :=
  callw_tree R_equating_Linear zT [] (by kernel_rfl) (by kernel_rfl) (by kernel_rfl) (by kernel_rfl) (by kernel_rfl) h

theorem e_ref32_Mean (a0 : GDistribution) {y : AV × Mem} (h : (
  callD r_ref32_wrong (cw f_ref32_wrong [.agg (dGDistribution.enc a0)] []) fun (r0 : Int) =>
  brn (r0 != 0) (some (.tup [.agg (dGRatio.enc (⟨0, 0⟩)), I r0], []))
  (callD r_ref32_sum (cw f_ref32_sum [.agg (dGDistribution.enc a0)] []) fun (r1 : Int) =>
   callD r_ref32_Count (cw f_ref32_Count [.agg (dGDistribution.enc a0)] []) fun (r2 : Int) =>
   callD r_ref01_New (cw f_ref01_New [I r1, I r2] []) fun (r3 : GRatio × Int) =>
   some (.tup [.agg (dGRatio.enc r3.fst), I r3.snd], []))) = some y) : cw f_ref32_Mean [.agg (dGDistribution.enc a0)] [] = some y :=
  callw_tree R_ref32_Mean zT [] (by kernel_rfl) (by kernel_rfl) (by kernel_rfl) (by kernel_rfl) (by kernel_rfl) h

theorem e_law34_whole (a0 : Int) {y : AV × Mem} (h : (
  some (.agg (dGRatio.enc (⟨a0, 1⟩)), [])) = some y) : cw f_law34_whole [I a0] [] = some y :=
  callw_tree R_law34_whole zT [] (by kernel_rfl) (by kernel_rfl) (by kernel_rfl) (by kernel_rfl) (by kernel_rfl) h

theorem e_ref01_Sub (a0 : GRatio) (a1 : GRatio) {y : AV × Mem} (h : (
  callD r_ref01_Valid (cw f_ref01_Valid [.agg (dGRatio.enc a0)] []) fun (r0 : Bool) =>
  brn (!r0) (some (.tup [.agg (dGRatio.enc (⟨0, 0⟩)), I 1], []))
  (callD r_ref01_Valid (cw f_ref01_Valid [.agg (dGRatio.enc a1)] []) fun (r1 : Bool) =>
   brn (!r1) (some (.tup [.agg (dGRatio.enc (⟨0, 0⟩)), I 1], []))
   (callD r_ref01_Add (cw f_ref01_Add [.agg (dGRatio.enc a0), .agg (dGRatio.enc (⟨w64 (0 - a1.Num), a1.Den⟩))] []) fun (r2 : GRatio × Int) =>
    some (.tup [.agg (dGRatio.enc r2.fst), I r2.snd], [])))) = some y) : cw f_ref01_Sub [.agg (dGRatio.enc a0), .agg (dGRatio.enc a1)] [] = some y :=
  callw_tree R_ref01_Sub zT [] (by kernel_rfl) (by kernel_rfl) (by kernel_rfl) (by kernel_rfl) (by kernel_rfl) h

noncomputable def k_ref32_Deviation_1 (a0 : GDistribution) (r1 : Int) (r2 : Int) (x3 : Int) (x4 : Int) : Option (AV × Mem) := pt R_ref32_Deviation 1 ⟨[(1, .loc 1 1 0 0), (2, .loc 2 2 0 0), (5, I r1), (6, I r2), (7, I x3), (8, I x4)], [(1, ⟨1, ty_api_Distribution, [dGDistribution.enc a0], true⟩), (2, ⟨2, ty_api_Ratio, [dGRatio.enc (⟨0, 0⟩)], true⟩)]⟩

theorem t_ref32_Deviation_1 (a0 : GDistribution) (r1 : Int) (r2 : Int) (x3 : Int) (x4 : Int) {y : AV × Mem} (h : (
  brn (decide (x4 < (↑(List.map dI_i64.enc a0.Counts).length : Int))) (chk ((0 : Int) ≤ x4) <|
   elemD dI_i64 (List.map dI_i64.enc a0.Counts) x4.toNat fun (c5 : Int) =>
   k_ref32_Deviation_1 a0 r1 r2 (w64 (x3 + w64 (c5 * if w64 (0 - w64 (w64 (x4 * r1) - r2)) > w64 (w64 (x4 * r1) - r2) then w64 (0 - w64 (w64 (x4 * r1) - r2)) else w64 (w64 (x4 * r1) - r2)))) (w64 (x4 + 1)))
  (callD r_ref01_New (cw f_ref01_New [I x3, I (w64 (r1 * r1))] []) fun (r6 : GRatio × Int) =>
   some (.tup [.agg (dGRatio.enc r6.fst), I r6.snd], []))) = some y) : k_ref32_Deviation_1 a0 r1 r2 x3 x4 = some y :=
  pt_of zT [] (by kernel_rfl) h

theorem e_ref32_Deviation (a0 : GDistribution) {y : AV × Mem} (h : (
  callD r_ref32_wrong (cw f_ref32_wrong [.agg (dGDistribution.enc a0)] []) fun (r0 : Int) =>
  brn (r0 != 0) (some (.tup [.agg (dGRatio.enc (⟨0, 0⟩)), I r0], []))
  (callD r_ref32_Count (cw f_ref32_Count [.agg (dGDistribution.enc a0)] []) fun (r1 : Int) =>
   callD r_ref32_sum (cw f_ref32_sum [.agg (dGDistribution.enc a0)] []) fun (r2 : Int) =>
   k_ref32_Deviation_1 a0 r1 r2 0 0)) = some y) : cw f_ref32_Deviation [.agg (dGDistribution.enc a0)] [] = some y :=
  callw_tree R_ref32_Deviation zT [] (by kernel_rfl) (by kernel_rfl) (by kernel_rfl) (by kernel_rfl) (by kernel_rfl) h

theorem e_ref01_Add (a0 : GRatio) (a1 : GRatio) {y : AV × Mem} (h : (
  callD r_ref01_Valid (cw f_ref01_Valid [.agg (dGRatio.enc a0)] []) fun (r0 : Bool) =>
  brn (!r0) (some (.tup [.agg (dGRatio.enc (⟨0, 0⟩)), I 1], []))
  (callD r_ref01_Valid (cw f_ref01_Valid [.agg (dGRatio.enc a1)] []) fun (r1 : Bool) =>
   brn (!r1) (some (.tup [.agg (dGRatio.enc (⟨0, 0⟩)), I 1], []))
   (callD r_ref01_Size (cw f_ref01_Size [I a0.Num] []) fun (r2 : Int) =>
    callD r_ref01_Size (cw f_ref01_Size [I a1.Den] []) fun (r3 : Int) =>
    callD r_ref01_Product (cw f_ref01_Product [.v (.int .u64 r2), .v (.int .u64 r3)] []) fun (r4 : Gref01Wide) =>
    callD r_ref01_Size (cw f_ref01_Size [I a1.Num] []) fun (r5 : Int) =>
    callD r_ref01_Size (cw f_ref01_Size [I a0.Den] []) fun (r6 : Int) =>
    callD r_ref01_Product (cw f_ref01_Product [.v (.int .u64 r5), .v (.int .u64 r6)] []) fun (r7 : Gref01Wide) =>
    callD r_ref01_total (cw f_ref01_total [B (decide (a0.Num < 0)), .agg (dGref01Wide.enc r4), B (decide (a1.Num < 0)), .agg (dGref01Wide.enc r7)] []) fun (r8 : Bool × Gref01Wide) =>
    callD r_ref01_Size (cw f_ref01_Size [I a0.Den] []) fun (r9 : Int) =>
    callD r_ref01_Size (cw f_ref01_Size [I a1.Den] []) fun (r10 : Int) =>
    callD r_ref01_Product (cw f_ref01_Product [.v (.int .u64 r9), .v (.int .u64 r10)] []) fun (r11 : Gref01Wide) =>
    callD r_ref01_Reduce (cw f_ref01_Reduce [B r8.fst, .agg (dGref01Wide.enc r8.snd), .agg (dGref01Wide.enc r11)] []) fun (r12 : GRatio × Int) =>
    some (.tup [.agg (dGRatio.enc r12.fst), I r12.snd], [])))) = some y) : cw f_ref01_Add [.agg (dGRatio.enc a0), .agg (dGRatio.enc a1)] [] = some y :=
  callw_tree R_ref01_Add zT [] (by kernel_rfl) (by kernel_rfl) (by kernel_rfl) (by kernel_rfl) (by kernel_rfl) h

noncomputable def k_mark_Dice_Curve_1 (x3 : List (List AV)) (x4 : GmarkDice) (x5 : Int) (x6 : Int) (x7 : Int) : Option (AV × Mem) := pt R_mark_Dice_Curve 1 ⟨[(0, .loc 1000 2 0 0), (2, .loc 2 1 0 0), (3, I x5), (4, I x6), (5, .loc 5 1 0 0), (6, I x7)], [(2, ⟨1, ty_api_Curve, [[.v (.slice none 0 0)]], true⟩), (5, ⟨1, ty_api_Curve, [[.row 900 4 0 (List.length x3)]], true⟩), (900, ⟨4, ty_api_Point, x3, false⟩), (1000, ⟨2, ty_mark_Dice, [dGmarkDice.enc x4], true⟩)]⟩

theorem t_mark_Dice_Curve_1 (x3 : List (List AV)) (x4 : GmarkDice) (x5 : Int) (x6 : Int) (x7 : Int) {y : AV × Mem} (h : (
  brn (decide (0 < x7)) (callD r_mark_Dice_Next (cw f_mark_Dice_Next [.loc 1000 2 0 0, I 3] [(1000, ⟨2, ty_mark_Dice, [dGmarkDice.enc x4], true⟩)]) fun (r8 : Int × GmarkDice) =>
   callD r_mark_Dice_Next (cw f_mark_Dice_Next [.loc 1000 2 0 0, I 4] [(1000, ⟨2, ty_mark_Dice, [dGmarkDice.enc r8.snd], true⟩)]) fun (r9 : Int × GmarkDice) =>
   chk (x3.length = x3.length) <|
   chk ((x3.length + 1) * (32 + 1) ≤ 1099511627776) <|
   k_mark_Dice_Curve_1 (x3 ++ ([dGPoint.enc (⟨⟨w64 (w64 (x5 + 1) + r8.fst), 1⟩, ⟨w64 (w64 (x6 + 1) + r9.fst), 1⟩⟩)])) r9.snd (w64 (w64 (x5 + 1) + r8.fst)) (w64 (w64 (x6 + 1) + r9.fst)) (w64 (x7 - 1)))
  (chk (0 + x3.length ≤ x3.length) <|
   some (.agg [.sl 4 (List.take x3.length x3)], [(1000, ⟨2, ty_mark_Dice, [dGmarkDice.enc x4], true⟩)]))) = some y) : k_mark_Dice_Curve_1 x3 x4 x5 x6 x7 = some y :=
  pt_of zT [] (by kernel_rfl) h

theorem e_mark_Dice_Curve (a0 : GmarkDice) {y : AV × Mem} (h : (
  callD r_mark_Dice_Next (cw f_mark_Dice_Next [.loc 1000 2 0 0, I 9] [(1000, ⟨2, ty_mark_Dice, [dGmarkDice.enc a0], true⟩)]) fun (r0 : Int × GmarkDice) =>
  callD r_mark_Dice_Next (cw f_mark_Dice_Next [.loc 1000 2 0 0, I 9] [(1000, ⟨2, ty_mark_Dice, [dGmarkDice.enc r0.snd], true⟩)]) fun (r1 : Int × GmarkDice) =>
  callD r_mark_Dice_Next (cw f_mark_Dice_Next [.loc 1000 2 0 0, I 4] [(1000, ⟨2, ty_mark_Dice, [dGmarkDice.enc r1.snd], true⟩)]) fun (r2 : Int × GmarkDice) =>
  k_mark_Dice_Curve_1 ([dGPoint.enc (⟨⟨w64 (r0.fst - 4), 1⟩, ⟨w64 (r1.fst - 4), 1⟩⟩)]) r2.snd (w64 (r0.fst - 4)) (w64 (r1.fst - 4)) (w64 (1 + r2.fst))) = some y) : cw f_mark_Dice_Curve [.loc 1000 2 0 0] [(1000, ⟨2, ty_mark_Dice, [dGmarkDice.enc a0], true⟩)] = some y :=
  callw_tree R_mark_Dice_Curve zT [] (by kernel_rfl) (by kernel_rfl) (by kernel_rfl) (by kernel_rfl) (by kernel_rfl) h

noncomputable def k_equating_Table_1 (a0 : GCurve) (a1 : Int) (a2 : Int) (x2 : List (List AV)) (x3 : Int) : Option (AV × Mem) := pt R_equating_Table 1 ⟨[(2, I a2), (3, .loc 3 1 0 0), (8, .row 22 1 0 ((List.replicate (w64 (a1 + 1)).toNat (AV.v (Go.Value.int IntKind.i64 0) :: List.map AV.v [])).length)), (24, I ((↑(List.replicate (w64 (a1 + 1)).toNat (AV.v (Go.Value.int IntKind.i64 0) :: List.map AV.v [])).length : Int))), (25, I x3)], [(3, ⟨1, ty_api_Curve, [dGCurve.enc a0], true⟩), (22, ⟨1, ty_i64_2, x2, false⟩)]⟩

theorem t_equating_Table_1 (a0 : GCurve) (a1 : Int) (a2 : Int) (x2 : List (List AV)) (x3 : Int) {y : AV × Mem} (h : (
  brn (decide (x3 < (↑(List.replicate (w64 (a1 + 1)).toNat (AV.v (Go.Value.int IntKind.i64 0) :: List.map AV.v [])).length : Int))) (callD r_conversion_Convert (cw f_conversion_Convert [.agg (dGCurve.enc a0), I x3, I a2] []) fun (r4 : Int × Int) =>
   brn (r4.snd != 0) (some (.tup [.sl 1 (List.map dI_i64.enc []), I r4.snd], []))
   (chk ((0 : Int) ≤ x3) <|
    chk ((x3 : Int) < ((↑(List.replicate (w64 (a1 + 1)).toNat (AV.v (Go.Value.int IntKind.i64 0) :: List.map AV.v [])).length : Int))) <|
    elemD dI_i64 x2 (0 + x3.toNat) fun (c5 : Int) =>
    k_equating_Table_1 a0 a1 a2 (List.set x2 (0 + x3.toNat) (dI_i64.enc r4.fst)) (w64 (x3 + 1))))
  (chk (0 + (List.replicate (w64 (a1 + 1)).toNat (AV.v (Go.Value.int IntKind.i64 0) :: List.map AV.v [])).length ≤ x2.length) <|
   some (.tup [.sl 1 (List.take ((List.replicate (w64 (a1 + 1)).toNat (AV.v (Go.Value.int IntKind.i64 0) :: List.map AV.v [])).length) x2), I 0], []))) = some y) : k_equating_Table_1 a0 a1 a2 x2 x3 = some y :=
  pt_of zT [] (by kernel_rfl) h

theorem e_equating_Table (a0 : GCurve) (a1 : Int) (a2 : Int) {y : AV × Mem} (h : (
  callD r_equating_isScore (cw f_equating_isScore [I a1] []) fun (r0 : Bool) =>
  brn (!r0) (some (.tup [.sl 1 (List.map dI_i64.enc []), I 2], []))
  (callD r_equating_isScore (cw f_equating_isScore [I a2] []) fun (r1 : Bool) =>
   brn (!r1) (some (.tup [.sl 1 (List.map dI_i64.enc []), I 2], []))
   (chk ((w64 (a1 + 1) : Int) = (w64 (a1 + 1))) <|
    chk ((0 : Int) ≤ (w64 (a1 + 1))) <|
    chk ((w64 (a1 + 1)).toNat * (8 + 1) ≤ 1099511627776) <|
    k_equating_Table_1 a0 a1 a2 (List.replicate ((w64 (a1 + 1)).toNat) (dI_i64.enc 0)) 0))) = some y) : cw f_equating_Table [.agg (dGCurve.enc a0), I a1, I a2] [] = some y :=
  callw_tree R_equating_Table zT [] (by kernel_rfl) (by kernel_rfl) (by kernel_rfl) (by kernel_rfl) (by kernel_rfl) h

noncomputable def k_equating_Convert_1 (a0 : GDistribution) (a2 : Int) (r1 : (List Int) × Int) (x2 : List (List AV)) (x3 : Int) : Option (AV × Mem) := pt R_equating_Convert 1 ⟨[(6, .loc 6 1 0 0), (8, .sl 1 (List.map dI_i64.enc r1.fst)), (10, .row 33 1 0 ((List.replicate (w64 (a2 + 1)).toNat (AV.v (Go.Value.int IntKind.i64 0) :: List.map AV.v [])).length)), (35, .sl 1 (List.map dI_i64.enc a0.Counts)), (36, I ((↑(List.map dI_i64.enc a0.Counts).length : Int))), (37, I x3)], [(6, ⟨1, ty_api_Distribution, [[.v (.slice none 0 0)]], true⟩), (33, ⟨1, ty_i64_2, x2, false⟩)]⟩

theorem t_equating_Convert_1 (a0 : GDistribution) (a2 : Int) (r1 : (List Int) × Int) (x2 : List (List AV)) (x3 : Int) {y : AV × Mem} (h : (
  brn (decide (x3 < (↑(List.map dI_i64.enc a0.Counts).length : Int))) (chk ((0 : Int) ≤ x3) <|
   elemD dI_i64 (List.map dI_i64.enc a0.Counts) x3.toNat fun (c4 : Int) =>
   chk ((0 : Int) ≤ x3) <|
   elemD dI_i64 (List.map dI_i64.enc r1.fst) x3.toNat fun (c5 : Int) =>
   chk (0 ≤ c5) <|
   chk ((c5 : Int) < ((↑(List.replicate (w64 (a2 + 1)).toNat (AV.v (Go.Value.int IntKind.i64 0) :: List.map AV.v [])).length : Int))) <|
   elemD dI_i64 x2 (0 + Int.toNat c5) fun (c6 : Int) =>
   chk (0 ≤ c5) <|
   chk ((c5 : Int) < ((↑(List.replicate (w64 (a2 + 1)).toNat (AV.v (Go.Value.int IntKind.i64 0) :: List.map AV.v [])).length : Int))) <|
   elemD dI_i64 x2 (0 + Int.toNat c5) fun (c7 : Int) =>
   k_equating_Convert_1 a0 a2 r1 (List.set x2 (0 + Int.toNat c5) (dI_i64.enc (w64 (c6 + c4)))) (w64 (x3 + 1)))
  (chk (0 + (List.replicate (w64 (a2 + 1)).toNat (AV.v (Go.Value.int IntKind.i64 0) :: List.map AV.v [])).length ≤ x2.length) <|
   some (.tup [.agg [.sl 1 (List.take ((List.replicate (w64 (a2 + 1)).toNat (AV.v (Go.Value.int IntKind.i64 0) :: List.map AV.v [])).length) x2)], I 0], []))) = some y) : k_equating_Convert_1 a0 a2 r1 x2 x3 = some y :=
  pt_of zT [] (by kernel_rfl) h

theorem e_equating_Convert (a0 : GDistribution) (a1 : GCurve) (a2 : Int) {y : AV × Mem} (h : (
  callD r_distribution_Valid (cw f_distribution_Valid [.agg (dGDistribution.enc a0)] []) fun (r0 : Bool) =>
  brn (!r0) (some (.tup [.agg (dGDistribution.enc ⟨[]⟩), I 1], []))
  (callD r_equating_Table (cw f_equating_Table [.agg (dGCurve.enc a1), I (w64 ((↑(List.map dI_i64.enc a0.Counts).length : Int) - 1)), I a2] []) fun (r1 : (List Int) × Int) =>
   brn (r1.snd != 0) (some (.tup [.agg (dGDistribution.enc ⟨[]⟩), I r1.snd], []))
   (chk ((w64 (a2 + 1) : Int) = (w64 (a2 + 1))) <|
    chk ((0 : Int) ≤ (w64 (a2 + 1))) <|
    chk ((w64 (a2 + 1)).toNat * (8 + 1) ≤ 1099511627776) <|
    k_equating_Convert_1 a0 a2 r1 (List.replicate ((w64 (a2 + 1)).toNat) (dI_i64.enc 0)) 0))) = some y) : cw f_equating_Convert [.agg (dGDistribution.enc a0), .agg (dGCurve.enc a1), I a2] [] = some y :=
  callw_tree R_equating_Convert zT [] (by kernel_rfl) (by kernel_rfl) (by kernel_rfl) (by kernel_rfl) (by kernel_rfl) h

theorem e_equating_Equate (a0 : Int) (a1 : GDistribution) (a2 : GDistribution) {y : AV × Mem} (h : (
  brn (a0 == 0) (callD r_equating_Mean (cw f_equating_Mean [.agg (dGDistribution.enc a1), .agg (dGDistribution.enc a2)] []) fun (r0 : GCurve × Int) =>
   some (.tup [.agg (dGCurve.enc r0.fst), I r0.snd], []))
  (brn (a0 == 1) (callD r_equating_Linear (cw f_equating_Linear [.agg (dGDistribution.enc a1), .agg (dGDistribution.enc a2)] []) fun (r1 : GCurve × Int) =>
    some (.tup [.agg (dGCurve.enc r1.fst), I r1.snd], []))
   (brn (a0 == 2) (callD r_equating_Percentile (cw f_equating_Percentile [.agg (dGDistribution.enc a1), .agg (dGDistribution.enc a2)] []) fun (r2 : GCurve × Int) =>
     some (.tup [.agg (dGCurve.enc r2.fst), I r2.snd], []))
    (some (.tup [.agg (dGCurve.enc ⟨[]⟩), I 2], []))))) = some y) : cw f_equating_Equate [I a0, .agg (dGDistribution.enc a1), .agg (dGDistribution.enc a2)] [] = some y :=
  callw_tree R_equating_Equate zT [] (by kernel_rfl) (by kernel_rfl) (by kernel_rfl) (by kernel_rfl) (by kernel_rfl) h

theorem e_conversion_Inverse (a0 : GCurve) {y : AV × Mem} (h : (
  callD r_conversion_Valid (cw f_conversion_Valid [.agg (dGCurve.enc a0)] []) fun (r0 : Bool) =>
  brn (!r0) (some (.tup [.agg (dGCurve.enc ⟨[]⟩), I 1], []))
  (callD r_conversion_exchanged (cw f_conversion_exchanged [.sl 4 (List.map dGPoint.enc a0.Points)] []) fun (r1 : (List GPoint)) =>
   chk (0 + (List.map dGPoint.enc r1).length ≤ (List.map dGPoint.enc r1).length) <|
   callD r_conversion_normal (cw f_conversion_normal [.sl 4 (List.take ((List.map dGPoint.enc r1).length) (List.map dGPoint.enc r1))] []) fun (r2 : GCurve × Int) =>
   chk (0 + (List.map dGPoint.enc r1).length ≤ (List.map dGPoint.enc r1).length) <|
   some (.tup [.agg (dGCurve.enc r2.fst), I r2.snd], []))) = some y) : cw f_conversion_Inverse [.agg (dGCurve.enc a0)] [] = some y :=
  callw_tree R_conversion_Inverse zT [] (by kernel_rfl) (by kernel_rfl) (by kernel_rfl) (by kernel_rfl) (by kernel_rfl) h

theorem e_conversion_Same (a0 : GCurve) (a1 : GCurve) {y : AV × Mem} (h : (
  callD r_conversion_Normal (cw f_conversion_Normal [.agg (dGCurve.enc a0)] []) fun (r0 : GCurve × Int) =>
  brn (r0.snd != 0) (some (B false, []))
  (callD r_conversion_Normal (cw f_conversion_Normal [.agg (dGCurve.enc a1)] []) fun (r1 : GCurve × Int) =>
   brn (r1.snd == 0) (callD r_slices_Equal_api_Point_api_Point (cw f_slices_Equal_api_Point_api_Point [.sl 4 (List.map dGPoint.enc r0.fst.Points), .sl 4 (List.map dGPoint.enc r1.fst.Points)] []) fun (r2 : Bool) =>
    some (B r2, []))
   (some (B false, [])))) = some y) : cw f_conversion_Same [.agg (dGCurve.enc a0), .agg (dGCurve.enc a1)] [] = some y :=
  callw_tree R_conversion_Same zT [] (by kernel_rfl) (by kernel_rfl) (by kernel_rfl) (by kernel_rfl) (by kernel_rfl) h

theorem e_mark_Dice_Next (a0 : GmarkDice) (a1 : Int) {y : AV × Mem} (h : (
  brn (decide ((↑(List.map dI_i64.enc a0.L).length : Int) ≤ a0.At)) (some (I 0, [(1000, ⟨2, ty_mark_Dice, [dGmarkDice.enc a0], true⟩)]))
  (brn (decide (a1 < 1)) (some (I 0, [(1000, ⟨2, ty_mark_Dice, [dGmarkDice.enc a0], true⟩)]))
   (chk ((0 : Int) ≤ a0.At) <|
    elemD dI_i64 (List.map dI_i64.enc a0.L) a0.At.toNat fun (c0 : Int) =>
    chk ((a1 : Int) ≠ 0) <|
    brn (decide (Int.tmod c0 a1 < 0)) (some (I (w64 (Int.tmod c0 a1 + a1)), [(1000, ⟨2, ty_mark_Dice, [dGmarkDice.enc (⟨a0.L, w64 (a0.At + 1)⟩)], true⟩)]))
    (some (I (Int.tmod c0 a1), [(1000, ⟨2, ty_mark_Dice, [dGmarkDice.enc (⟨a0.L, w64 (a0.At + 1)⟩)], true⟩)]))))) = some y) : cw f_mark_Dice_Next [.loc 1000 2 0 0, I a1] [(1000, ⟨2, ty_mark_Dice, [dGmarkDice.enc a0], true⟩)] = some y :=
  callw_tree R_mark_Dice_Next zT [] (by kernel_rfl) (by kernel_rfl) (by kernel_rfl) (by kernel_rfl) (by kernel_rfl) h

theorem e_mark_Dice_Pick (a0 : GmarkDice) (a1 : List Int) {y : AV × Mem} (h : (
  callD r_mark_Dice_Next (cw f_mark_Dice_Next [.loc 1000 2 0 0, I ((↑(List.map dI_i64.enc a1).length : Int))] [(1000, ⟨2, ty_mark_Dice, [dGmarkDice.enc a0], true⟩)]) fun (r0 : Int × GmarkDice) =>
  chk (0 ≤ r0.fst) <|
  elemD dI_i64 (List.map dI_i64.enc a1) (Int.toNat r0.fst) fun (c1 : Int) =>
  some (I c1, [(1000, ⟨2, ty_mark_Dice, [dGmarkDice.enc r0.snd], true⟩)])) = some y) : cw f_mark_Dice_Pick [.loc 1000 2 0 0, .sl 1 (List.map dI_i64.enc a1)] [(1000, ⟨2, ty_mark_Dice, [dGmarkDice.enc a0], true⟩)] = some y :=
  callw_tree R_mark_Dice_Pick zT [] (by kernel_rfl) (by kernel_rfl) (by kernel_rfl) (by kernel_rfl) (by kernel_rfl) h

noncomputable def k_distribution_Valid_1 (a0 : GDistribution) (x0 : Int) (x1 : Int) : Option (AV × Mem) := pt R_distribution_Valid 1 ⟨[(3, I x0), (17, .sl 1 (List.map dI_i64.enc a0.Counts)), (18, I ((↑(List.map dI_i64.enc a0.Counts).length : Int))), (19, I x1)], []⟩

theorem t_distribution_Valid_1 (a0 : GDistribution) (x0 : Int) (x1 : Int) {y : AV × Mem} (h : (
  brn (decide (x1 < (↑(List.map dI_i64.enc a0.Counts).length : Int))) (chk ((0 : Int) ≤ x1) <|
   elemD dI_i64 (List.map dI_i64.enc a0.Counts) x1.toNat fun (c2 : Int) =>
   brn (decide (c2 < 0)) (some (B false, []))
   (brn (decide (1048576 < c2)) (some (B false, []))
    (k_distribution_Valid_1 a0 (w64 (x0 + c2)) (w64 (x1 + 1)))))
  (some (B (decide (x0 ≤ 1048576)), []))) = some y) : k_distribution_Valid_1 a0 x0 x1 = some y :=
  pt_of zT [] (by kernel_rfl) h

theorem e_distribution_Valid (a0 : GDistribution) {y : AV × Mem} (h : (
  brn (decide ((↑(List.map dI_i64.enc a0.Counts).length : Int) < 1)) (some (B false, []))
  (brn (decide (201 < (↑(List.map dI_i64.enc a0.Counts).length : Int))) (some (B false, []))
   (k_distribution_Valid_1 a0 0 0))) = some y) : cw f_distribution_Valid [.agg (dGDistribution.enc a0)] [] = some y :=
  callw_tree R_distribution_Valid zT [] (by kernel_rfl) (by kernel_rfl) (by kernel_rfl) (by kernel_rfl) (by kernel_rfl) h

theorem e_slices_Contains_int_int (a0 : List Int) (a1 : Int) {y : AV × Mem} (h : (
  callD r_slices_Index_int_int (cw f_slices_Index_int_int [.sl 1 (List.map dI_i64.enc a0), I a1] []) fun (r0 : Int) =>
  some (B (decide (0 ≤ r0)), [])) = some y) : cw f_slices_Contains_int_int [.sl 1 (List.map dI_i64.enc a0), I a1] [] = some y :=
  callw_tree R_slices_Contains_int_int zT [] (by kernel_rfl) (by kernel_rfl) (by kernel_rfl) (by kernel_rfl) (by kernel_rfl) h

noncomputable def k_equating_sums_1 (a0 : GDistribution) (x0 : List (List AV)) (x1 : Int) : Option (AV × Mem) := pt R_equating_sums 1 ⟨[(3, .row 3 1 0 (List.length x0)), (8, .sl 1 (List.map dI_i64.enc a0.Counts)), (9, I ((↑(List.map dI_i64.enc a0.Counts).length : Int))), (10, I x1)], [(3, ⟨1, ty_i64_2, x0, false⟩)]⟩

theorem t_equating_sums_1 (a0 : GDistribution) (x0 : List (List AV)) (x1 : Int) {y : AV × Mem} (h : (
  brn (decide (x1 < (↑(List.map dI_i64.enc a0.Counts).length : Int))) (chk ((0 : Int) ≤ x1) <|
   elemD dI_i64 (List.map dI_i64.enc a0.Counts) x1.toNat fun (c2 : Int) =>
   chk ((0 : Int) ≤ x1) <|
   chk ((x1 : Int) < (↑x0.length : Int)) <|
   elemD dI_i64 x0 (0 + x1.toNat) fun (c3 : Int) =>
   chk (x0.length = x0.length) <|
   chk ((x0.length + 1) * (8 + 1) ≤ 1099511627776) <|
   chk ((x0 ++ [[AV.v (Go.Value.int IntKind.i64 (w64 (c3 + c2)))]]).length = (x0 ++ [[AV.v (Go.Value.int IntKind.i64 (w64 (c3 + c2)))]]).length) <|
   k_equating_sums_1 a0 (x0 ++ ([dI_i64.enc (w64 (c3 + c2))])) (w64 (x1 + 1)))
  (chk (x0.length = x0.length) <|
   some (.new 1 ty_i64_2 x0, []))) = some y) : k_equating_sums_1 a0 x0 x1 = some y :=
  pt_of zT [] (by kernel_rfl) h

theorem e_equating_sums (a0 : GDistribution) {y : AV × Mem} (h : (
  chk (1 = 1) <|
  k_equating_sums_1 a0 ([dI_i64.enc 0]) 0) = some y) : cw f_equating_sums [.agg (dGDistribution.enc a0)] [] = some y :=
  callw_tree R_equating_sums zT [] (by kernel_rfl) (by kernel_rfl) (by kernel_rfl) (by kernel_rfl) (by kernel_rfl) h

theorem e_equating_number (a0 : List Int) (a1 : Int) (a2 : Int) (a3 : Int) {y : AV × Mem} (h : (
  chk ((0 : Int) ≤ (w64 ((↑(List.map dI_i64.enc a0).length : Int) - 1))) <|
  elemD dI_i64 (List.map dI_i64.enc a0) ((w64 ((↑(List.map dI_i64.enc a0).length : Int) - 1)).toNat) fun (c0 : Int) =>
  callD r_ratio_New (cw f_ratio_New [I (w64 (w64 (2 * a1) - 1)), I 2] []) fun (r1 : GRatio × Int) =>
  brn (r1.snd != 0) (some (.tup [.agg (dGRatio.enc (⟨0, 0⟩)), I r1.snd], []))
  (chk ((0 : Int) ≤ a1) <|
   elemD dI_i64 (List.map dI_i64.enc a0) a1.toNat fun (c2 : Int) =>
   chk ((0 : Int) ≤ (w64 (a1 + 1))) <|
   elemD dI_i64 (List.map dI_i64.enc a0) ((w64 (a1 + 1)).toNat) fun (c3 : Int) =>
   chk ((0 : Int) ≤ a1) <|
   elemD dI_i64 (List.map dI_i64.enc a0) a1.toNat fun (c4 : Int) =>
   callD r_ratio_New (cw f_ratio_New [I (w64 (w64 (a2 * c0) - w64 (c2 * a3))), I (w64 (a3 * w64 (c3 - c4)))] []) fun (r5 : GRatio × Int) =>
   brn (r5.snd != 0) (some (.tup [.agg (dGRatio.enc (⟨0, 0⟩)), I r5.snd], []))
   (callD r_ratio_Add (cw f_ratio_Add [.agg (dGRatio.enc r1.fst), .agg (dGRatio.enc r5.fst)] []) fun (r6 : GRatio × Int) =>
    some (.tup [.agg (dGRatio.enc r6.fst), I r6.snd], [])))) = some y) : cw f_equating_number [.sl 1 (List.map dI_i64.enc a0), I a1, I a2, I a3] [] = some y :=
  callw_tree R_equating_number zT [] (by kernel_rfl) (by kernel_rfl) (by kernel_rfl) (by kernel_rfl) (by kernel_rfl) h

theorem e_conversion_Normal (a0 : GCurve) {y : AV × Mem} (h : (
  callD r_conversion_Valid (cw f_conversion_Valid [.agg (dGCurve.enc a0)] []) fun (r0 : Bool) =>
  brn (!r0) (some (.tup [.agg (dGCurve.enc ⟨[]⟩), I 1], []))
  (callD r_conversion_normal (cw f_conversion_normal [.sl 4 (List.map dGPoint.enc a0.Points)] []) fun (r1 : GCurve × Int) =>
   some (.tup [.agg (dGCurve.enc r1.fst), I r1.snd], []))) = some y) : cw f_conversion_Normal [.agg (dGCurve.enc a0)] [] = some y :=
  callw_tree R_conversion_Normal zT [] (by kernel_rfl) (by kernel_rfl) (by kernel_rfl) (by kernel_rfl) (by kernel_rfl) h

theorem e_ref01_Reduce (a0 : Bool) (a1 : Gref01Wide) (a2 : Gref01Wide) {y : AV × Mem} (h : (
  callD r_ref01_Divisor (cw f_ref01_Divisor [.agg (dGref01Wide.enc a1), .agg (dGref01Wide.enc a2)] []) fun (r0 : Gref01Wide) =>
  callD r_ref01_Divide (cw f_ref01_Divide [.agg (dGref01Wide.enc a1), .agg (dGref01Wide.enc r0)] []) fun (r1 : Gref01Wide × Gref01Wide) =>
  callD r_ref01_Divide (cw f_ref01_Divide [.agg (dGref01Wide.enc a2), .agg (dGref01Wide.enc r0)] []) fun (r2 : Gref01Wide × Gref01Wide) =>
  brn (decide (0 < r1.fst.Hi)) (some (.tup [.agg (dGRatio.enc (⟨0, 0⟩)), I 6], []))
  (brn (decide (0 < r2.fst.Hi)) (some (.tup [.agg (dGRatio.enc (⟨0, 0⟩)), I 6], []))
   (brn (decide (1152921504606846976 < r1.fst.Lo)) (some (.tup [.agg (dGRatio.enc (⟨0, 0⟩)), I 6], []))
    (brn (decide (1152921504606846976 < r2.fst.Lo)) (some (.tup [.agg (dGRatio.enc (⟨0, 0⟩)), I 6], []))
     (brn a0 (some (.tup [.agg (dGRatio.enc (⟨w64 (0 - w64 r1.fst.Lo), w64 r2.fst.Lo⟩)), I 0], []))
      (some (.tup [.agg (dGRatio.enc (⟨w64 r1.fst.Lo, w64 r2.fst.Lo⟩)), I 0], []))))))) = some y) : cw f_ref01_Reduce [B a0, .agg (dGref01Wide.enc a1), .agg (dGref01Wide.enc a2)] [] = some y :=
  callw_tree R_ref01_Reduce zT [] (by kernel_rfl) (by kernel_rfl) (by kernel_rfl) (by kernel_rfl) (by kernel_rfl) h

theorem e_ref01_Size (a0 : Int) {y : AV × Mem} (h : (
  brn (decide (a0 < 0)) (some (.v (.int .u64 (wu64 (wu64 (w64 (0 - w64 (a0 + 1))) + 1))), []))
  (some (.v (.int .u64 (wu64 a0)), []))) = some y) : cw f_ref01_Size [I a0] [] = some y :=
  callw_tree R_ref01_Size zT [] (by kernel_rfl) (by kernel_rfl) (by kernel_rfl) (by kernel_rfl) (by kernel_rfl) h

theorem e_conversion_Valid (a0 : GCurve) {y : AV × Mem} (h : (
  brn (decide (2 ≤ (↑(List.map dGPoint.enc a0.Points).length : Int))) (brn (decide ((↑(List.map dGPoint.enc a0.Points).length : Int) ≤ 410)) (callD r_conversion_ascending (cw f_conversion_ascending [.sl 4 (List.map dGPoint.enc a0.Points)] []) fun (r0 : Bool) =>
    some (B r0, []))
   (some (B false, [])))
  (some (B false, []))) = some y) : cw f_conversion_Valid [.agg (dGCurve.enc a0)] [] = some y :=
  callw_tree R_conversion_Valid zT [] (by kernel_rfl) (by kernel_rfl) (by kernel_rfl) (by kernel_rfl) (by kernel_rfl) h

theorem e_ratio_Valid (a0 : GRatio) {y : AV × Mem} (h : (
  brn (decide (a0.Den < 1)) (some (B false, []))
  (brn (decide (1152921504606846976 < a0.Den)) (some (B false, []))
   (brn (decide (a0.Num < -1152921504606846976)) (some (B false, []))
    (brn (decide (1152921504606846976 < a0.Num)) (some (B false, []))
     (callD r_ratio_magnitude (cw f_ratio_magnitude [I a0.Num] []) fun (r0 : Int) =>
      callD r_ratio_gcd (cw f_ratio_gcd [.v (.int .u64 r0), .v (.int .u64 (wu64 a0.Den))] []) fun (r1 : Int) =>
      some (B (r1 == 1), [])))))) = some y) : cw f_ratio_Valid [.agg (dGRatio.enc a0)] [] = some y :=
  callw_tree R_ratio_Valid zT [] (by kernel_rfl) (by kernel_rfl) (by kernel_rfl) (by kernel_rfl) (by kernel_rfl) h

theorem e_conversion_eval (a0 : List GPoint) (a1 : GRatio) {y : AV × Mem} (h : (
  callD r_sort_Search (cw f_sort_Search [I (w64 (w64 ((↑(List.map dGPoint.enc a0).length : Int) - 1) - 1)), .fn f_conversion_eval_1 [.fp [I a1.Num, I a1.Den], .fp [.sl 4 (List.map dGPoint.enc a0)]]] []) fun (r0 : Int) =>
  chk ((0 : Int) ≤ (w64 (w64 (1 + r0) - 1))) <|
  elemD dGPoint (List.map dGPoint.enc a0) ((w64 (w64 (1 + r0) - 1)).toNat) fun (c1 : GPoint) =>
  chk ((0 : Int) ≤ (w64 (1 + r0))) <|
  elemD dGPoint (List.map dGPoint.enc a0) ((w64 (1 + r0)).toNat) fun (c2 : GPoint) =>
  callD r_conversion_steps_slope (cw f_conversion_steps_slope [.loc 1000 1 0 0, .agg (dGPoint.enc c1), .agg (dGPoint.enc c2)] [(1000, ⟨1, ty_conversion_steps, [dGconversionSteps.enc ⟨0⟩], true⟩)]) fun (r3 : GRatio × GconversionSteps) =>
  callD r_conversion_steps_do (cw f_conversion_steps_do [.loc 1000 1 0 0, .fn f_ratio_Sub [], .agg (dGRatio.enc a1), .agg (dGRatio.enc c1.X)] [(1000, ⟨1, ty_conversion_steps, [dGconversionSteps.enc r3.snd], true⟩)]) fun (r4 : GRatio × GconversionSteps) =>
  callD r_conversion_steps_do (cw f_conversion_steps_do [.loc 1000 1 0 0, .fn f_ratio_Mul [], .agg (dGRatio.enc r4.fst), .agg (dGRatio.enc r3.fst)] [(1000, ⟨1, ty_conversion_steps, [dGconversionSteps.enc r4.snd], true⟩)]) fun (r5 : GRatio × GconversionSteps) =>
  callD r_conversion_steps_do (cw f_conversion_steps_do [.loc 1000 1 0 0, .fn f_ratio_Add [], .agg (dGRatio.enc c1.Y), .agg (dGRatio.enc r5.fst)] [(1000, ⟨1, ty_conversion_steps, [dGconversionSteps.enc r5.snd], true⟩)]) fun (r6 : GRatio × GconversionSteps) =>
  some (.tup [.agg (dGRatio.enc r6.fst), I r6.snd.e], [])) = some y) : cw f_conversion_eval [.sl 4 (List.map dGPoint.enc a0), .agg (dGRatio.enc a1)] [] = some y :=
  callw_tree R_conversion_eval zT [] (by kernel_rfl) (by kernel_rfl) (by kernel_rfl) (by kernel_rfl) (by kernel_rfl) h

noncomputable def k_ref32_Valid_1 (a0 : GDistribution) (x0 : Int) (x1 : Int) : Option (AV × Mem) := pt R_ref32_Valid 1 ⟨[(1, .loc 1 1 0 0), (3, I x0), (4, I x1)], [(1, ⟨1, ty_api_Distribution, [dGDistribution.enc a0], true⟩)]⟩

theorem t_ref32_Valid_1 (a0 : GDistribution) (x0 : Int) (x1 : Int) {y : AV × Mem} (h : (
  brn (decide (x1 < (↑(List.map dI_i64.enc a0.Counts).length : Int))) (chk ((0 : Int) ≤ x1) <|
   elemD dI_i64 (List.map dI_i64.enc a0.Counts) x1.toNat fun (c2 : Int) =>
   brn (decide (c2 < 0)) (some (B false, []))
   (chk ((0 : Int) ≤ x1) <|
    elemD dI_i64 (List.map dI_i64.enc a0.Counts) x1.toNat fun (c3 : Int) =>
    brn (decide (w64 (1048576 - x0) < c3)) (some (B false, []))
    (chk ((0 : Int) ≤ x1) <|
     elemD dI_i64 (List.map dI_i64.enc a0.Counts) x1.toNat fun (c4 : Int) =>
     k_ref32_Valid_1 a0 (w64 (x0 + c4)) (w64 (x1 + 1)))))
  (some (B true, []))) = some y) : k_ref32_Valid_1 a0 x0 x1 = some y :=
  pt_of zT [] (by kernel_rfl) h

theorem e_ref32_Valid (a0 : GDistribution) {y : AV × Mem} (h : (
  brn (decide ((↑(List.map dI_i64.enc a0.Counts).length : Int) < 1)) (some (B false, []))
  (brn (decide (201 < (↑(List.map dI_i64.enc a0.Counts).length : Int))) (some (B false, []))
   (k_ref32_Valid_1 a0 0 0))) = some y) : cw f_ref32_Valid [.agg (dGDistribution.enc a0)] [] = some y :=
  callw_tree R_ref32_Valid zT [] (by kernel_rfl) (by kernel_rfl) (by kernel_rfl) (by kernel_rfl) (by kernel_rfl) h

theorem e_equating_both_Mean (a0 : GDistribution) (a1 : GDistribution) {y : AV × Mem} (h : (
  callD r_distribution_Valid (cw f_distribution_Valid [.agg (dGDistribution.enc a0)] []) fun (r0 : Bool) =>
  brn (!r0) (some (.tup [.agg (dGRatio.enc (⟨0, 0⟩)), .agg (dGRatio.enc (⟨0, 0⟩)), I 1], []))
  (callD r_distribution_Valid (cw f_distribution_Valid [.agg (dGDistribution.enc a1)] []) fun (r1 : Bool) =>
   brn (!r1) (some (.tup [.agg (dGRatio.enc (⟨0, 0⟩)), .agg (dGRatio.enc (⟨0, 0⟩)), I 1], []))
   (callD r_distribution_Count (cw f_distribution_Count [.agg (dGDistribution.enc a0)] []) fun (r2 : Int) =>
    brn (r2 == 0) (some (.tup [.agg (dGRatio.enc (⟨0, 0⟩)), .agg (dGRatio.enc (⟨0, 0⟩)), I 10], []))
    (callD r_distribution_Count (cw f_distribution_Count [.agg (dGDistribution.enc a1)] []) fun (r3 : Int) =>
     brn (r3 == 0) (some (.tup [.agg (dGRatio.enc (⟨0, 0⟩)), .agg (dGRatio.enc (⟨0, 0⟩)), I 10], []))
     (callD r_distribution_Mean (cw f_distribution_Mean [.agg (dGDistribution.enc a0)] []) fun (r4 : GRatio × Int) =>
      brn (r4.snd != 0) (some (.tup [.agg (dGRatio.enc (⟨0, 0⟩)), .agg (dGRatio.enc (⟨0, 0⟩)), I r4.snd], []))
      (callD r_distribution_Mean (cw f_distribution_Mean [.agg (dGDistribution.enc a1)] []) fun (r5 : GRatio × Int) =>
       brn (r5.snd != 0) (some (.tup [.agg (dGRatio.enc (⟨0, 0⟩)), .agg (dGRatio.enc (⟨0, 0⟩)), I r5.snd], []))
       (some (.tup [.agg (dGRatio.enc r4.fst), .agg (dGRatio.enc r5.fst), I 0], [])))))))) = some y) : cw f_equating_both [.agg (dGDistribution.enc a0), .agg (dGDistribution.enc a1), .fn f_distribution_Mean []] [] = some y :=
  callw_tree R_equating_both zT [] (by kernel_rfl) (by kernel_rfl) (by kernel_rfl) (by kernel_rfl) (by kernel_rfl) h

theorem e_equating_both_Deviation (a0 : GDistribution) (a1 : GDistribution) {y : AV × Mem} (h : (
  callD r_distribution_Valid (cw f_distribution_Valid [.agg (dGDistribution.enc a0)] []) fun (r0 : Bool) =>
  brn (!r0) (some (.tup [.agg (dGRatio.enc (⟨0, 0⟩)), .agg (dGRatio.enc (⟨0, 0⟩)), I 1], []))
  (callD r_distribution_Valid (cw f_distribution_Valid [.agg (dGDistribution.enc a1)] []) fun (r1 : Bool) =>
   brn (!r1) (some (.tup [.agg (dGRatio.enc (⟨0, 0⟩)), .agg (dGRatio.enc (⟨0, 0⟩)), I 1], []))
   (callD r_distribution_Count (cw f_distribution_Count [.agg (dGDistribution.enc a0)] []) fun (r2 : Int) =>
    brn (r2 == 0) (some (.tup [.agg (dGRatio.enc (⟨0, 0⟩)), .agg (dGRatio.enc (⟨0, 0⟩)), I 10], []))
    (callD r_distribution_Count (cw f_distribution_Count [.agg (dGDistribution.enc a1)] []) fun (r3 : Int) =>
     brn (r3 == 0) (some (.tup [.agg (dGRatio.enc (⟨0, 0⟩)), .agg (dGRatio.enc (⟨0, 0⟩)), I 10], []))
     (callD r_distribution_Deviation (cw f_distribution_Deviation [.agg (dGDistribution.enc a0)] []) fun (r4 : GRatio × Int) =>
      brn (r4.snd != 0) (some (.tup [.agg (dGRatio.enc (⟨0, 0⟩)), .agg (dGRatio.enc (⟨0, 0⟩)), I r4.snd], []))
      (callD r_distribution_Deviation (cw f_distribution_Deviation [.agg (dGDistribution.enc a1)] []) fun (r5 : GRatio × Int) =>
       brn (r5.snd != 0) (some (.tup [.agg (dGRatio.enc (⟨0, 0⟩)), .agg (dGRatio.enc (⟨0, 0⟩)), I r5.snd], []))
       (some (.tup [.agg (dGRatio.enc r4.fst), .agg (dGRatio.enc r5.fst), I 0], [])))))))) = some y) : cw f_equating_both [.agg (dGDistribution.enc a0), .agg (dGDistribution.enc a1), .fn f_distribution_Deviation []] [] = some y :=
  callw_tree R_equating_both zT [] (by kernel_rfl) (by kernel_rfl) (by kernel_rfl) (by kernel_rfl) (by kernel_rfl) h

theorem e_distribution_Mean (a0 : GDistribution) {y : AV × Mem} (h : (
  callD r_distribution_check (cw f_distribution_check [.agg (dGDistribution.enc a0)] []) fun (r0 : Int × Int) =>
  brn (r0.snd != 0) (some (.tup [.agg (dGRatio.enc (⟨0, 0⟩)), I r0.snd], []))
  (callD r_distribution_sumOfScores (cw f_distribution_sumOfScores [.agg (dGDistribution.enc a0)] []) fun (r1 : Int) =>
   callD r_ratio_New (cw f_ratio_New [I r1, I r0.fst] []) fun (r2 : GRatio × Int) =>
   some (.tup [.agg (dGRatio.enc r2.fst), I r2.snd], []))) = some y) : cw f_distribution_Mean [.agg (dGDistribution.enc a0)] [] = some y :=
  callw_tree R_distribution_Mean zT [] (by kernel_rfl) (by kernel_rfl) (by kernel_rfl) (by kernel_rfl) (by kernel_rfl) h

theorem e_equating_through (a0 : GRatio) (a1 : GRatio) (a2 : GRatio) {y : AV × Mem} (h : (
  callD r_ratio_Mul (cw f_ratio_Mul [.agg (dGRatio.enc a0), .agg (dGRatio.enc a1)] []) fun (r0 : GRatio × Int) =>
  brn (r0.snd != 0) (some (.tup [.agg (dGCurve.enc ⟨[]⟩), I r0.snd], []))
  (callD r_ratio_Sub (cw f_ratio_Sub [.agg (dGRatio.enc a2), .agg (dGRatio.enc r0.fst)] []) fun (r1 : GRatio × Int) =>
   brn (r1.snd != 0) (some (.tup [.agg (dGCurve.enc ⟨[]⟩), I r1.snd], []))
   (callD r_conversion_Line (cw f_conversion_Line [.agg (dGRatio.enc a0), .agg (dGRatio.enc r1.fst)] []) fun (r2 : GCurve × Int) =>
    some (.tup [.agg (dGCurve.enc r2.fst), I r2.snd], [])))) = some y) : cw f_equating_through [.agg (dGRatio.enc a0), .agg (dGRatio.enc a1), .agg (dGRatio.enc a2)] [] = some y :=
  callw_tree R_equating_through zT [] (by kernel_rfl) (by kernel_rfl) (by kernel_rfl) (by kernel_rfl) (by kernel_rfl) h

end Go.Proofs.Ythhedegaeeadhaa
