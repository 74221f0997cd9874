/- What the functions compute, between two cut points: printed by a program, checked by the kernel. -/
import Derived.Test.YthhedegaeeadhaaAnn
namespace Go.Proofs.Ythhedegaeeadhaa
open Go.Ab
set_option maxRecDepth 100000
set_option linter.unusedVariables false

noncomputable def k_law34_EquatingShares_1 (r3 : GDistribution × GmarkDice) (r4 : GDistribution × GmarkDice) (r5 : GCurve × Int) (r6 : Int) (r7 : Int) (x8 : Int) : Option (AV × Mem) := pt R_law34_EquatingShares 1 ⟨[(4, .loc 4 1 0 0), (5, .loc 5 1 0 0), (6, .loc 6 1 0 0), (8, I r6), (9, I r7), (10, I x8)], [(4, ⟨1, ty_api_Distribution, [dGDistribution.enc r3.fst], true⟩), (5, ⟨1, ty_api_Distribution, [dGDistribution.enc r4.fst], true⟩), (6, ⟨1, ty_api_Curve, [dGCurve.enc r5.fst], true⟩)]⟩

noncomputable def k_law34_EquatingShares_2 (r3 : GDistribution × GmarkDice) (r4 : GDistribution × GmarkDice) (r5 : GCurve × Int) (r6 : Int) (r7 : Int) (x8 : Int) (r10 : GRatio × Int) (x11 : Int) : Option (AV × Mem) := pt R_law34_EquatingShares 2 ⟨[(4, .loc 4 1 0 0), (5, .loc 5 1 0 0), (6, .loc 6 1 0 0), (8, I r6), (9, I r7), (10, I x8), (13, .loc 13 2 0 0), (15, I x11)], [(4, ⟨1, ty_api_Distribution, [dGDistribution.enc r3.fst], true⟩), (5, ⟨1, ty_api_Distribution, [dGDistribution.enc r4.fst], true⟩), (6, ⟨1, ty_api_Curve, [dGCurve.enc r5.fst], true⟩), (13, ⟨2, ty_api_Ratio, [dGRatio.enc r10.fst], true⟩)]⟩

noncomputable def k_law34_EquatingShares_1019 (r3 : GDistribution × GmarkDice) (r4 : GDistribution × GmarkDice) (r5 : GCurve × Int) (r6 : Int) (r7 : Int) (x8 : Int) (r10 : GRatio × Int) (x11 : Int) : Option (AV × Mem) := pt R_law34_EquatingShares 1019 ⟨[(4, .loc 4 1 0 0), (5, .loc 5 1 0 0), (6, .loc 6 1 0 0), (8, I r6), (9, I r7), (10, I x8), (13, .loc 13 2 0 0), (15, I x11), (82, B false)], [(4, ⟨1, ty_api_Distribution, [dGDistribution.enc r3.fst], true⟩), (5, ⟨1, ty_api_Distribution, [dGDistribution.enc r4.fst], true⟩), (6, ⟨1, ty_api_Curve, [dGCurve.enc r5.fst], true⟩), (13, ⟨2, ty_api_Ratio, [dGRatio.enc r10.fst], true⟩)]⟩

theorem t_law34_EquatingShares_1 (r3 : GDistribution × GmarkDice) (r4 : GDistribution × GmarkDice) (r5 : GCurve × Int) (r6 : Int) (r7 : Int) (x8 : Int) {y : AV × Mem} (h : (
  brn (decide (x8 ≤ (↑(List.map dI_i64.enc r3.fst.Counts).length : Int))) (callD r_ref01_New (cw f_ref01_New [I (w64 (w64 (2 * x8) - 1)), I 2] []) fun (r9 : GRatio × Int) =>
   callD r_conversion_Eval (cw f_conversion_Eval [.agg (dGCurve.enc r5.fst), .agg (dGRatio.enc r9.fst)] []) fun (r10 : GRatio × Int) =>
   brn (r9.snd != 0) (some (B false, []))
   (brn (r10.snd != 0) (some (B false, []))
    (k_law34_EquatingShares_2 r3 r4 r5 r6 r7 x8 r10 0)))
  (callD r_law34_sane (cw f_law34_sane [] []) fun (r12 : Bool) =>
   some (B r12, []))) = some y) : k_law34_EquatingShares_1 r3 r4 r5 r6 r7 x8 = some y :=
  pt_of zT [19] (by kernel_rfl) h

theorem t_law34_EquatingShares_2 (r3 : GDistribution × GmarkDice) (r4 : GDistribution × GmarkDice) (r5 : GCurve × Int) (r6 : Int) (r7 : Int) (x8 : Int) (r10 : GRatio × Int) (x11 : Int) {y : AV × Mem} (h : (
  brn (decide (w64 (x11 + 1) < (↑(List.map dI_i64.enc r4.fst.Counts).length : Int))) (brn (decide (w64 (w64 (w64 (2 * x11) + 1) * r10.fst.Den) < w64 (r10.fst.Num * 2))) (k_law34_EquatingShares_2 r3 r4 r5 r6 r7 x8 r10 (w64 (x11 + 1)))
   (k_law34_EquatingShares_1019 r3 r4 r5 r6 r7 x8 r10 x11))
  (k_law34_EquatingShares_1019 r3 r4 r5 r6 r7 x8 r10 x11)) = some y) : k_law34_EquatingShares_2 r3 r4 r5 r6 r7 x8 r10 x11 = some y :=
  pt_of zT [19] (by kernel_rfl) h

theorem t_law34_EquatingShares_1019 (r3 : GDistribution × GmarkDice) (r4 : GDistribution × GmarkDice) (r5 : GCurve × Int) (r6 : Int) (r7 : Int) (x8 : Int) (r10 : GRatio × Int) (x11 : Int) {y : AV × Mem} (h : (
  callD r_ref32_Below (cw f_ref32_Below [.agg (dGDistribution.enc r4.fst), I x11] []) fun (r13 : Int) =>
  chk ((0 : Int) ≤ x11) <|
  elemD dI_i64 (List.map dI_i64.enc r4.fst.Counts) x11.toNat fun (c14 : Int) =>
  callD r_ref32_Below (cw f_ref32_Below [.agg (dGDistribution.enc r3.fst), I x8] []) fun (r15 : Int) =>
  brn (w64 (w64 (w64 (w64 (r13 * 2) * r10.fst.Den) + w64 (c14 * w64 (w64 (2 * r10.fst.Num) - w64 (w64 (w64 (2 * x11) - 1) * r10.fst.Den)))) * r6) != w64 (w64 (w64 (r15 * r7) * 2) * r10.fst.Den)) (some (B false, []))
  (k_law34_EquatingShares_1 r3 r4 r5 r6 r7 (w64 (x8 + 1)))) = some y) : k_law34_EquatingShares_1019 r3 r4 r5 r6 r7 x8 r10 x11 = some y :=
  pt_of zT [19] (by kernel_rfl) h

theorem e_law34_EquatingShares (a0 : List Int) {y : AV × Mem} (h : (
  callD r_mark_Light (cw f_mark_Light [.sl 1 (List.map dI_i64.enc a0)] []) fun (r0 : Bool) =>
  brn (!r0) (callD r_law34_sane (cw f_law34_sane [] []) fun (r1 : Bool) =>
   some (B r1, []))
  (callD r_mark_Roll (cw f_mark_Roll [.sl 1 (List.map dI_i64.enc a0)] []) fun (r2 : GmarkDice) =>
   callD r_mark_Dice_Distribution (cw f_mark_Dice_Distribution [.loc 1000 2 0 0, I 6, B true] [(1000, ⟨2, ty_mark_Dice, [dGmarkDice.enc r2], true⟩)]) fun (r3 : GDistribution × GmarkDice) =>
   callD r_mark_Dice_Distribution (cw f_mark_Dice_Distribution [.loc 1000 2 0 0, I 6, B true] [(1000, ⟨2, ty_mark_Dice, [dGmarkDice.enc r3.snd], true⟩)]) fun (r4 : GDistribution × GmarkDice) =>
   callD r_equating_Percentile (cw f_equating_Percentile [.agg (dGDistribution.enc r3.fst), .agg (dGDistribution.enc r4.fst)] []) fun (r5 : GCurve × Int) =>
   brn (r5.snd != 0) (some (B false, []))
   (callD r_ref32_Count (cw f_ref32_Count [.agg (dGDistribution.enc r3.fst)] []) fun (r6 : Int) =>
    callD r_ref32_Count (cw f_ref32_Count [.agg (dGDistribution.enc r4.fst)] []) fun (r7 : Int) =>
    k_law34_EquatingShares_1 r3 r4 r5 r6 r7 0))) = some y) : cw f_law34_EquatingShares [.sl 1 (List.map dI_i64.enc a0)] [] = some y :=
  callw_tree R_law34_EquatingShares zT [19] (by kernel_rfl) (by kernel_rfl) (by kernel_rfl) (by kernel_rfl) (by kernel_rfl) h

theorem e_law34_EquatingMeans (a0 : List Int) {y : AV × Mem} (h : (
  callD r_mark_Light (cw f_mark_Light [.sl 1 (List.map dI_i64.enc a0)] []) fun (r0 : Bool) =>
  brn (!r0) (callD r_law34_sane (cw f_law34_sane [] []) fun (r1 : Bool) =>
   some (B r1, []))
  (callD r_mark_Roll (cw f_mark_Roll [.sl 1 (List.map dI_i64.enc a0)] []) fun (r2 : GmarkDice) =>
   callD r_mark_Dice_Distribution (cw f_mark_Dice_Distribution [.loc 1000 2 0 0, I 6, B true] [(1000, ⟨2, ty_mark_Dice, [dGmarkDice.enc r2], true⟩)]) fun (r3 : GDistribution × GmarkDice) =>
   callD r_mark_Dice_Distribution (cw f_mark_Dice_Distribution [.loc 1000 2 0 0, I 6, B true] [(1000, ⟨2, ty_mark_Dice, [dGmarkDice.enc r3.snd], true⟩)]) fun (r4 : GDistribution × GmarkDice) =>
   callD r_equating_Mean (cw f_equating_Mean [.agg (dGDistribution.enc r3.fst), .agg (dGDistribution.enc r4.fst)] []) fun (r5 : GCurve × Int) =>
   callD r_equating_Linear (cw f_equating_Linear [.agg (dGDistribution.enc r3.fst), .agg (dGDistribution.enc r4.fst)] []) fun (r6 : GCurve × Int) =>
   callD r_ref32_Mean (cw f_ref32_Mean [.agg (dGDistribution.enc r3.fst)] []) fun (r7 : GRatio × Int) =>
   callD r_ref32_Mean (cw f_ref32_Mean [.agg (dGDistribution.enc r4.fst)] []) fun (r8 : GRatio × Int) =>
   callD r_conversion_Eval (cw f_conversion_Eval [.agg (dGCurve.enc r5.fst), .agg (dGRatio.enc r7.fst)] []) fun (r9 : GRatio × Int) =>
   brn (r5.snd != 0) (some (B false, []))
   (brn (r7.snd != 0) (some (B false, []))
    (brn (r8.snd != 0) (some (B false, []))
     (brn (r9.snd != 0) (some (B false, []))
      (brn (!(r9.fst.Num == r8.fst.Num && (r9.fst.Den == r8.fst.Den && true))) (some (B false, []))
       (callD r_law34_whole (cw f_law34_whole [I 1] []) fun (r10 : GRatio) =>
        callD r_conversion_Eval (cw f_conversion_Eval [.agg (dGCurve.enc r5.fst), .agg (dGRatio.enc r10)] []) fun (r11 : GRatio × Int) =>
        callD r_law34_whole (cw f_law34_whole [I 0] []) fun (r12 : GRatio) =>
        callD r_conversion_Eval (cw f_conversion_Eval [.agg (dGCurve.enc r5.fst), .agg (dGRatio.enc r12)] []) fun (r13 : GRatio × Int) =>
        callD r_ref01_Sub (cw f_ref01_Sub [.agg (dGRatio.enc r11.fst), .agg (dGRatio.enc r13.fst)] []) fun (r14 : GRatio × Int) =>
        brn (r11.snd != 0) (some (B false, []))
        (brn (r13.snd != 0) (some (B false, []))
         (brn (r14.snd != 0) (some (B false, []))
          (callD r_law34_whole (cw f_law34_whole [I 1] []) fun (r15 : GRatio) =>
           brn (!(r14.fst.Num == r15.Num && (r14.fst.Den == r15.Den && true))) (some (B false, []))
           (brn (r6.snd != 0) (brn (r6.snd == 10) (callD r_law34_sane (cw f_law34_sane [] []) fun (r16 : Bool) =>
              some (B r16, []))
             (some (B false, [])))
            (callD r_ref32_Deviation (cw f_ref32_Deviation [.agg (dGDistribution.enc r3.fst)] []) fun (r17 : GRatio × Int) =>
             callD r_ref32_Deviation (cw f_ref32_Deviation [.agg (dGDistribution.enc r4.fst)] []) fun (r18 : GRatio × Int) =>
             callD r_conversion_Eval (cw f_conversion_Eval [.agg (dGCurve.enc r6.fst), .agg (dGRatio.enc r7.fst)] []) fun (r19 : GRatio × Int) =>
             callD r_ref01_Add (cw f_ref01_Add [.agg (dGRatio.enc r7.fst), .agg (dGRatio.enc r17.fst)] []) fun (r20 : GRatio × Int) =>
             callD r_conversion_Eval (cw f_conversion_Eval [.agg (dGCurve.enc r6.fst), .agg (dGRatio.enc r20.fst)] []) fun (r21 : GRatio × Int) =>
             callD r_ref01_Add (cw f_ref01_Add [.agg (dGRatio.enc r8.fst), .agg (dGRatio.enc r18.fst)] []) fun (r22 : GRatio × Int) =>
             brn (r17.snd == 0) (brn (r18.snd == 0) (brn (r19.snd == 0) (brn (r20.snd == 0) (brn (r21.snd == 0) (brn (r22.snd == 0) (brn (r19.fst.Num == r8.fst.Num && (r19.fst.Den == r8.fst.Den && true)) (brn (r21.fst.Num == r22.fst.Num && (r21.fst.Den == r22.fst.Den && true)) (callD r_law34_sane (cw f_law34_sane [] []) fun (r23 : Bool) =>
                     some (B r23, []))
                    (some (B false, [])))
                   (some (B false, [])))
                  (some (B false, [])))
                 (some (B false, [])))
                (some (B false, [])))
               (some (B false, [])))
              (some (B false, [])))
             (some (B false, [])))))))))))))) = some y) : cw f_law34_EquatingMeans [.sl 1 (List.map dI_i64.enc a0)] [] = some y :=
  callw_tree R_law34_EquatingMeans zT [] (by kernel_rfl) (by kernel_rfl) (by kernel_rfl) (by kernel_rfl) (by kernel_rfl) h

noncomputable def k_law34_EquatingTables_1 (a1 : Int) (r3 : GDistribution × GmarkDice) (r5 : (List Int) × Int) (r6 : GDistribution × Int) (x9 : Int) : Option (AV × Mem) := pt R_law34_EquatingTables 1 ⟨[(6, .loc 6 1 0 0), (8, I ((w64 a1).tmod 50)), (9, .sl 1 (List.map dI_i64.enc r5.fst)), (11, .loc 11 1 0 0), (74, I ((↑(List.map dI_i64.enc r5.fst).length : Int))), (75, I x9)], [(6, ⟨1, ty_api_Distribution, [dGDistribution.enc r3.fst], true⟩), (11, ⟨1, ty_api_Distribution, [dGDistribution.enc r6.fst], true⟩)]⟩

theorem t_law34_EquatingTables_1 (a1 : Int) (r3 : GDistribution × GmarkDice) (r5 : (List Int) × Int) (r6 : GDistribution × Int) (x9 : Int) {y : AV × Mem} (h : (
  brn (decide (x9 < (↑(List.map dI_i64.enc r5.fst).length : Int))) (chk ((0 : Int) ≤ x9) <|
   elemD dI_i64 (List.map dI_i64.enc r5.fst) x9.toNat fun (c10 : Int) =>
   brn (decide (c10 < 0)) (some (B false, []))
   (chk ((0 : Int) ≤ x9) <|
    elemD dI_i64 (List.map dI_i64.enc r5.fst) x9.toNat fun (c11 : Int) =>
    brn (decide ((w64 a1).tmod 50 < c11)) (some (B false, []))
    (brn (decide (0 < x9)) (chk ((0 : Int) ≤ x9) <|
      elemD dI_i64 (List.map dI_i64.enc r5.fst) x9.toNat fun (c12 : Int) =>
      chk ((0 : Int) ≤ (w64 (x9 - 1))) <|
      elemD dI_i64 (List.map dI_i64.enc r5.fst) ((w64 (x9 - 1)).toNat) fun (c13 : Int) =>
      brn (decide (c12 < c13)) (some (B false, []))
      (chk ((0 : Int) ≤ x9) <|
       elemD dI_i64 (List.map dI_i64.enc r5.fst) x9.toNat fun (c14 : Int) =>
       callD r_ref32_Below (cw f_ref32_Below [.agg (dGDistribution.enc r6.fst), I c14] []) fun (r15 : Int) =>
       callD r_ref32_Below (cw f_ref32_Below [.agg (dGDistribution.enc r3.fst), I x9] []) fun (r16 : Int) =>
       brn (decide (r16 < r15)) (some (B false, []))
       (chk ((0 : Int) ≤ x9) <|
        elemD dI_i64 (List.map dI_i64.enc r5.fst) x9.toNat fun (c17 : Int) =>
        callD r_ref32_Below (cw f_ref32_Below [.agg (dGDistribution.enc r6.fst), I (w64 (c17 + 1))] []) fun (r18 : Int) =>
        callD r_ref32_Below (cw f_ref32_Below [.agg (dGDistribution.enc r3.fst), I (w64 (x9 + 1))] []) fun (r19 : Int) =>
        brn (decide (r18 < r19)) (some (B false, []))
        (k_law34_EquatingTables_1 a1 r3 r5 r6 (w64 (x9 + 1))))))
     (chk ((0 : Int) ≤ x9) <|
      elemD dI_i64 (List.map dI_i64.enc r5.fst) x9.toNat fun (c20 : Int) =>
      callD r_ref32_Below (cw f_ref32_Below [.agg (dGDistribution.enc r6.fst), I c20] []) fun (r21 : Int) =>
      callD r_ref32_Below (cw f_ref32_Below [.agg (dGDistribution.enc r3.fst), I x9] []) fun (r22 : Int) =>
      brn (decide (r22 < r21)) (some (B false, []))
      (chk ((0 : Int) ≤ x9) <|
       elemD dI_i64 (List.map dI_i64.enc r5.fst) x9.toNat fun (c23 : Int) =>
       callD r_ref32_Below (cw f_ref32_Below [.agg (dGDistribution.enc r6.fst), I (w64 (c23 + 1))] []) fun (r24 : Int) =>
       callD r_ref32_Below (cw f_ref32_Below [.agg (dGDistribution.enc r3.fst), I (w64 (x9 + 1))] []) fun (r25 : Int) =>
       brn (decide (r24 < r25)) (some (B false, []))
       (k_law34_EquatingTables_1 a1 r3 r5 r6 (w64 (x9 + 1))))))))
  (callD r_law34_sane (cw f_law34_sane [] []) fun (r26 : Bool) =>
   some (B r26, []))) = some y) : k_law34_EquatingTables_1 a1 r3 r5 r6 x9 = some y :=
  pt_of zT [] (by kernel_rfl) h

theorem e_law34_EquatingTables (a0 : List Int) (a1 : Int) {y : AV × Mem} (h : (
  callD r_mark_Light (cw f_mark_Light [.sl 1 (List.map dI_i64.enc a0)] []) fun (r0 : Bool) =>
  brn (!r0) (callD r_law34_sane (cw f_law34_sane [] []) fun (r1 : Bool) =>
   some (B r1, []))
  (callD r_mark_Roll (cw f_mark_Roll [.sl 1 (List.map dI_i64.enc a0)] []) fun (r2 : GmarkDice) =>
   callD r_mark_Dice_Distribution (cw f_mark_Dice_Distribution [.loc 1000 2 0 0, I 8, B false] [(1000, ⟨2, ty_mark_Dice, [dGmarkDice.enc r2], true⟩)]) fun (r3 : GDistribution × GmarkDice) =>
   callD r_mark_Dice_Curve (cw f_mark_Dice_Curve [.loc 1000 2 0 0] [(1000, ⟨2, ty_mark_Dice, [dGmarkDice.enc r3.snd], true⟩)]) fun (r4 : GCurve × GmarkDice) =>
   chk ((50 : Int) ≠ 0) <|
   callD r_equating_Table (cw f_equating_Table [.agg (dGCurve.enc r4.fst), I (w64 ((↑(List.map dI_i64.enc r3.fst.Counts).length : Int) - 1)), I ((w64 a1).tmod 50)] []) fun (r5 : (List Int) × Int) =>
   callD r_equating_Convert (cw f_equating_Convert [.agg (dGDistribution.enc r3.fst), .agg (dGCurve.enc r4.fst), I ((w64 a1).tmod 50)] []) fun (r6 : GDistribution × Int) =>
   brn (r5.snd != 0) (some (B false, []))
   (brn (r6.snd != 0) (some (B false, []))
    (brn ((↑(List.map dI_i64.enc r5.fst).length : Int) != (↑(List.map dI_i64.enc r3.fst.Counts).length : Int)) (some (B false, []))
     (callD r_ref32_Count (cw f_ref32_Count [.agg (dGDistribution.enc r6.fst)] []) fun (r7 : Int) =>
      callD r_ref32_Count (cw f_ref32_Count [.agg (dGDistribution.enc r3.fst)] []) fun (r8 : Int) =>
      brn (r7 != r8) (some (B false, []))
      (brn ((↑(List.map dI_i64.enc r6.fst.Counts).length : Int) != w64 ((w64 a1).tmod 50 + 1)) (some (B false, []))
       (k_law34_EquatingTables_1 a1 r3 r5 r6 0))))))) = some y) : cw f_law34_EquatingTables [.sl 1 (List.map dI_i64.enc a0), .v (.int .u8 a1)] [] = some y :=
  callw_tree R_law34_EquatingTables zT [] (by kernel_rfl) (by kernel_rfl) (by kernel_rfl) (by kernel_rfl) (by kernel_rfl) h

theorem e_law34_EquatingBack (a0 : List Int) (a1 : Int) {y : AV × Mem} (h : (
  callD r_mark_Light (cw f_mark_Light [.sl 1 (List.map dI_i64.enc a0)] []) fun (r0 : Bool) =>
  brn (!r0) (callD r_law34_sane (cw f_law34_sane [] []) fun (r1 : Bool) =>
   some (B r1, []))
  (callD r_mark_Roll (cw f_mark_Roll [.sl 1 (List.map dI_i64.enc a0)] []) fun (r2 : GmarkDice) =>
   callD r_mark_Dice_Distribution (cw f_mark_Dice_Distribution [.loc 1000 2 0 0, I 6, B true] [(1000, ⟨2, ty_mark_Dice, [dGmarkDice.enc r2], true⟩)]) fun (r3 : GDistribution × GmarkDice) =>
   callD r_mark_Dice_Distribution (cw f_mark_Dice_Distribution [.loc 1000 2 0 0, I 6, B true] [(1000, ⟨2, ty_mark_Dice, [dGmarkDice.enc r3.snd], true⟩)]) fun (r4 : GDistribution × GmarkDice) =>
   chk ((3 : Int) ≠ 0) <|
   callD r_equating_Equate (cw f_equating_Equate [I (w64 (a1.tmod 3)), .agg (dGDistribution.enc r3.fst), .agg (dGDistribution.enc r4.fst)] []) fun (r5 : GCurve × Int) =>
   callD r_equating_Equate (cw f_equating_Equate [I (w64 (a1.tmod 3)), .agg (dGDistribution.enc r4.fst), .agg (dGDistribution.enc r3.fst)] []) fun (r6 : GCurve × Int) =>
   brn (r5.snd != 0) (brn (r5.snd == r6.snd) (brn (r5.snd == 10) (brn (w64 (a1.tmod 3) == 1) (callD r_law34_sane (cw f_law34_sane [] []) fun (r7 : Bool) =>
       some (B r7, []))
      (some (B false, [])))
     (some (B false, [])))
    (some (B false, [])))
   (brn (r6.snd != 0) (brn (r5.snd == r6.snd) (brn (r5.snd == 10) (brn (w64 (a1.tmod 3) == 1) (callD r_law34_sane (cw f_law34_sane [] []) fun (r8 : Bool) =>
        some (B r8, []))
       (some (B false, [])))
      (some (B false, [])))
     (some (B false, [])))
    (callD r_conversion_Inverse (cw f_conversion_Inverse [.agg (dGCurve.enc r5.fst)] []) fun (r9 : GCurve × Int) =>
     brn (r9.snd == 0) (callD r_conversion_Same (cw f_conversion_Same [.agg (dGCurve.enc r6.fst), .agg (dGCurve.enc r9.fst)] []) fun (r10 : Bool) =>
      brn r10 (callD r_law34_sane (cw f_law34_sane [] []) fun (r11 : Bool) =>
       some (B r11, []))
      (some (B false, [])))
     (some (B false, [])))))) = some y) : cw f_law34_EquatingBack [.sl 1 (List.map dI_i64.enc a0), .v (.int .u8 a1)] [] = some y :=
  callw_tree R_law34_EquatingBack zT [] (by kernel_rfl) (by kernel_rfl) (by kernel_rfl) (by kernel_rfl) (by kernel_rfl) h

theorem e_mark_Light (a0 : List Int) {y : AV × Mem} (h : (
  some (B (decide ((↑(List.map dI_i64.enc a0).length : Int) ≤ 600)), [])) = some y) : cw f_mark_Light [.sl 1 (List.map dI_i64.enc a0)] [] = some y :=
  callw_tree R_mark_Light zT [] (by kernel_rfl) (by kernel_rfl) (by kernel_rfl) (by kernel_rfl) (by kernel_rfl) h

theorem e_law34_sane {y : AV × Mem} (h : (
  callD r_equating_Percentile (cw f_equating_Percentile [.agg (dGDistribution.enc (⟨[1, 1]⟩)), .agg (dGDistribution.enc (⟨[1, 1, 1, 1]⟩))] []) fun (r0 : GCurve × Int) =>
  callD r_law34_whole (cw f_law34_whole [I 0] []) fun (r1 : GRatio) =>
  callD r_conversion_Eval (cw f_conversion_Eval [.agg (dGCurve.enc r0.fst), .agg (dGRatio.enc r1)] []) fun (r2 : GRatio × Int) =>
  callD r_equating_Mean (cw f_equating_Mean [.agg (dGDistribution.enc (⟨[1, 1]⟩)), .agg (dGDistribution.enc (⟨[1, 1, 1, 1]⟩))] []) fun (r3 : GCurve × Int) =>
  callD r_law34_whole (cw f_law34_whole [I 5] []) fun (r4 : GRatio) =>
  callD r_conversion_Eval (cw f_conversion_Eval [.agg (dGCurve.enc r3.fst), .agg (dGRatio.enc r4)] []) fun (r5 : GRatio × Int) =>
  brn (r0.snd == 0) (brn (r2.snd == 0) (brn (r3.snd == 0) (brn (r5.snd == 0) (brn (r2.fst.Num == 1 && (r2.fst.Den == 2 && true)) (callD r_law34_whole (cw f_law34_whole [I 6] []) fun (r6 : GRatio) =>
       some (B (r5.fst.Num == r6.Num && (r5.fst.Den == r6.Den && true)), []))
      (some (B false, [])))
     (some (B false, [])))
    (some (B false, [])))
   (some (B false, [])))
  (some (B false, []))) = some y) : cw f_law34_sane [] [] = some y :=
  callw_tree R_law34_sane zT [] (by kernel_rfl) (by kernel_rfl) (by kernel_rfl) (by kernel_rfl) (by kernel_rfl) h

theorem e_mark_Roll (a0 : List Int) {y : AV × Mem} (h : (
  some (.newp 2 ty_mark_Dice (dGmarkDice.enc (⟨a0, 0⟩)), [])) = some y) : cw f_mark_Roll [.sl 1 (List.map dI_i64.enc a0)] [] = some y :=
  callw_tree R_mark_Roll zT [] (by kernel_rfl) (by kernel_rfl) (by kernel_rfl) (by kernel_rfl) (by kernel_rfl) h

noncomputable def k_mark_Dice_Distribution_1 (x1 : List (List AV)) (x2 : GmarkDice) (x3 : Int) (x4 : Int) : Option (AV × Mem) := pt R_mark_Dice_Distribution 1 ⟨[(0, .loc 1000 2 0 0), (6, .loc 6 1 0 0), (7, .loc 7 1 0 0), (8, I x3), (9, I x4)], [(6, ⟨1, ty_api_Distribution, [[.v (.slice none 0 0)]], true⟩), (7, ⟨1, ty_api_Distribution, [[.row 900 1 0 (List.length x1)]], true⟩), (900, ⟨1, ty_i64_2, x1, false⟩), (1000, ⟨2, ty_mark_Dice, [dGmarkDice.enc x2], true⟩)]⟩

theorem t_mark_Dice_Distribution_1 (x1 : List (List AV)) (x2 : GmarkDice) (x3 : Int) (x4 : Int) {y : AV × Mem} (h : (
  brn (decide (0 < x4)) (callD r_mark_Dice_Pick (cw f_mark_Dice_Pick [.loc 1000 2 0 0, .sl 1 (List.map dI_i64.enc ([0, 1, 2, 5, 0]))] [(1000, ⟨2, ty_mark_Dice, [dGmarkDice.enc x2], true⟩)]) fun (r6 : Int × GmarkDice) =>
   chk (x1.length = x1.length) <|
   chk ((x1.length + 1) * (8 + 1) ≤ 1099511627776) <|
   k_mark_Dice_Distribution_1 (x1 ++ ([dI_i64.enc (w64 (x3 + r6.fst))])) r6.snd x3 (w64 (x4 - 1)))
  (chk (0 + x1.length ≤ x1.length) <|
   some (.agg [.sl 1 (List.take x1.length x1)], [(1000, ⟨2, ty_mark_Dice, [dGmarkDice.enc x2], true⟩)]))) = some y) : k_mark_Dice_Distribution_1 x1 x2 x3 x4 = some y :=
  pt_of zT [] (by kernel_rfl) h

theorem e_mark_Dice_Distribution (a0 : GmarkDice) (a1 : Int) (a2 : Bool) {y : AV × Mem} (h : (
  brn a2 (callD r_mark_Dice_Next (cw f_mark_Dice_Next [.loc 1000 2 0 0, I (w64 (a1 + 1))] [(1000, ⟨2, ty_mark_Dice, [dGmarkDice.enc a0], true⟩)]) fun (r0 : Int × GmarkDice) =>
   k_mark_Dice_Distribution_1 [] r0.snd 1 (w64 (1 + r0.fst)))
  (callD r_mark_Dice_Next (cw f_mark_Dice_Next [.loc 1000 2 0 0, I (w64 (a1 + 1))] [(1000, ⟨2, ty_mark_Dice, [dGmarkDice.enc a0], true⟩)]) fun (r5 : Int × GmarkDice) =>
   k_mark_Dice_Distribution_1 [] r5.snd 0 (w64 (1 + r5.fst)))) = some y) : cw f_mark_Dice_Distribution [.loc 1000 2 0 0, I a1, B a2] [(1000, ⟨2, ty_mark_Dice, [dGmarkDice.enc a0], true⟩)] = some y :=
  callw_tree R_mark_Dice_Distribution zT [] (by kernel_rfl) (by kernel_rfl) (by kernel_rfl) (by kernel_rfl) (by kernel_rfl) h

noncomputable def k_equating_Percentile_1 (a0 : GDistribution) (a1 : GDistribution) (r4 : (List Int)) (r5 : (List Int)) (c6 : Int) (c7 : Int) (x8 : List (List AV)) (x9 : Int) (x10 : Int) : Option (AV × Mem) := pt R_equating_Percentile 1 ⟨[(2, .loc 2 1 0 0), (3, .loc 3 1 0 0), (4, .loc 4 1 0 0), (6, .row 40 1 0 (List.length (List.map dI_i64.enc r4))), (7, .row 42 1 0 (List.length (List.map dI_i64.enc r5))), (8, I c6), (9, I c7), (11, .row 11 4 0 (List.length x8)), (12, I x9), (13, I x10)], [(2, ⟨1, ty_api_Distribution, [dGDistribution.enc a0], true⟩), (3, ⟨1, ty_api_Distribution, [dGDistribution.enc a1], true⟩), (4, ⟨1, ty_api_Curve, [[.v (.slice none 0 0)]], true⟩), (11, ⟨4, ty_api_Point, x8, false⟩), (40, ⟨1, ty_i64_2, List.map dI_i64.enc r4, false⟩), (42, ⟨1, ty_i64_2, List.map dI_i64.enc r5, false⟩)]⟩

noncomputable def k_equating_Percentile_1015 (a0 : GDistribution) (a1 : GDistribution) (r4 : (List Int)) (r5 : (List Int)) (c6 : Int) (c7 : Int) (x10 : Int) (x15 : List (List AV)) (x16 : Int) (x17 : Int) (x18 : Int) (x19 : Int) : Option (AV × Mem) := pt R_equating_Percentile 1015 ⟨[(2, .loc 2 1 0 0), (3, .loc 3 1 0 0), (4, .loc 4 1 0 0), (6, .row 40 1 0 (List.length (List.map dI_i64.enc r4))), (7, .row 42 1 0 (List.length (List.map dI_i64.enc r5))), (8, I c6), (9, I c7), (11, .row 11 4 0 (List.length x15)), (12, I x16), (13, I x10), (14, I x17), (15, I x18), (16, I x19), (17, I c7)], [(2, ⟨1, ty_api_Distribution, [dGDistribution.enc a0], true⟩), (3, ⟨1, ty_api_Distribution, [dGDistribution.enc a1], true⟩), (4, ⟨1, ty_api_Curve, [[.v (.slice none 0 0)]], true⟩), (11, ⟨4, ty_api_Point, x15, false⟩), (40, ⟨1, ty_i64_2, List.map dI_i64.enc r4, false⟩), (42, ⟨1, ty_i64_2, List.map dI_i64.enc r5, false⟩)]⟩

noncomputable def k_equating_Percentile_1015v1 (a0 : GDistribution) (a1 : GDistribution) (r4 : (List Int)) (r5 : (List Int)) (c6 : Int) (c7 : Int) (x10 : Int) (x20 : List (List AV)) (x21 : Int) (x22 : Int) (x23 : Int) (x24 : Int) : Option (AV × Mem) := pt R_equating_Percentile 1015 ⟨[(2, .loc 2 1 0 0), (3, .loc 3 1 0 0), (4, .loc 4 1 0 0), (6, .row 40 1 0 (List.length (List.map dI_i64.enc r4))), (7, .row 42 1 0 (List.length (List.map dI_i64.enc r5))), (8, I c6), (9, I c7), (11, .row 11 4 0 (List.length x20)), (12, I x21), (13, I x10), (14, I x22), (15, I x23), (16, I x24), (17, I c6), (94, B false)], [(2, ⟨1, ty_api_Distribution, [dGDistribution.enc a0], true⟩), (3, ⟨1, ty_api_Distribution, [dGDistribution.enc a1], true⟩), (4, ⟨1, ty_api_Curve, [[.v (.slice none 0 0)]], true⟩), (11, ⟨4, ty_api_Point, x20, false⟩), (40, ⟨1, ty_i64_2, List.map dI_i64.enc r4, false⟩), (42, ⟨1, ty_i64_2, List.map dI_i64.enc r5, false⟩)]⟩

noncomputable def k_equating_Percentile_1026 (a0 : GDistribution) (a1 : GDistribution) (r4 : (List Int)) (r5 : (List Int)) (c6 : Int) (c7 : Int) (x10 : Int) (x25 : List (List AV)) (x26 : Int) : Option (AV × Mem) := pt R_equating_Percentile 1026 ⟨[(2, .loc 2 1 0 0), (3, .loc 3 1 0 0), (4, .loc 4 1 0 0), (6, .row 40 1 0 (List.length (List.map dI_i64.enc r4))), (7, .row 42 1 0 (List.length (List.map dI_i64.enc r5))), (8, I c6), (9, I c7), (11, .row 11 4 0 (List.length x25)), (12, I x26), (13, I x10), (71, B false)], [(2, ⟨1, ty_api_Distribution, [dGDistribution.enc a0], true⟩), (3, ⟨1, ty_api_Distribution, [dGDistribution.enc a1], true⟩), (4, ⟨1, ty_api_Curve, [[.v (.slice none 0 0)]], true⟩), (11, ⟨4, ty_api_Point, x25, false⟩), (40, ⟨1, ty_i64_2, List.map dI_i64.enc r4, false⟩), (42, ⟨1, ty_i64_2, List.map dI_i64.enc r5, false⟩)]⟩

noncomputable def k_equating_Percentile_1024 (a0 : GDistribution) (a1 : GDistribution) (r4 : (List Int)) (r5 : (List Int)) (c6 : Int) (c7 : Int) (x10 : Int) (x29 : List (List AV)) (x30 : Int) (x31 : Int) (x32 : Int) : Option (AV × Mem) := pt R_equating_Percentile 1024 ⟨[(2, .loc 2 1 0 0), (3, .loc 3 1 0 0), (4, .loc 4 1 0 0), (6, .row 40 1 0 (List.length (List.map dI_i64.enc r4))), (7, .row 42 1 0 (List.length (List.map dI_i64.enc r5))), (8, I c6), (9, I c7), (11, .row 11 4 0 (List.length x29)), (12, I x30), (13, I x10), (14, I x31), (15, I x32)], [(2, ⟨1, ty_api_Distribution, [dGDistribution.enc a0], true⟩), (3, ⟨1, ty_api_Distribution, [dGDistribution.enc a1], true⟩), (4, ⟨1, ty_api_Curve, [[.v (.slice none 0 0)]], true⟩), (11, ⟨4, ty_api_Point, x29, false⟩), (40, ⟨1, ty_i64_2, List.map dI_i64.enc r4, false⟩), (42, ⟨1, ty_i64_2, List.map dI_i64.enc r5, false⟩)]⟩

noncomputable def k_equating_Percentile_1024v1 (a0 : GDistribution) (a1 : GDistribution) (r4 : (List Int)) (r5 : (List Int)) (c6 : Int) (c7 : Int) (x10 : Int) (x33 : List (List AV)) (x34 : Int) (x35 : Int) (x36 : Int) : Option (AV × Mem) := pt R_equating_Percentile 1024 ⟨[(2, .loc 2 1 0 0), (3, .loc 3 1 0 0), (4, .loc 4 1 0 0), (6, .row 40 1 0 (List.length (List.map dI_i64.enc r4))), (7, .row 42 1 0 (List.length (List.map dI_i64.enc r5))), (8, I c6), (9, I c7), (11, .row 11 4 0 (List.length x33)), (12, I x34), (13, I x10), (14, I x35), (15, I x36), (133, B false)], [(2, ⟨1, ty_api_Distribution, [dGDistribution.enc a0], true⟩), (3, ⟨1, ty_api_Distribution, [dGDistribution.enc a1], true⟩), (4, ⟨1, ty_api_Curve, [[.v (.slice none 0 0)]], true⟩), (11, ⟨4, ty_api_Point, x33, false⟩), (40, ⟨1, ty_i64_2, List.map dI_i64.enc r4, false⟩), (42, ⟨1, ty_i64_2, List.map dI_i64.enc r5, false⟩)]⟩

noncomputable def k_equating_Percentile_1v1 (a0 : GDistribution) (a1 : GDistribution) (r4 : (List Int)) (r5 : (List Int)) (c6 : Int) (c7 : Int) (x10 : Int) (x40 : List (List AV)) (x41 : Int) : Option (AV × Mem) := pt R_equating_Percentile 1 ⟨[(2, .loc 2 1 0 0), (3, .loc 3 1 0 0), (4, .loc 4 1 0 0), (6, .row 40 1 0 (List.length (List.map dI_i64.enc r4))), (7, .row 42 1 0 (List.length (List.map dI_i64.enc r5))), (8, I c6), (9, I c7), (11, .row 11 4 0 (List.length x40)), (12, I x41), (13, I x10), (138, B false)], [(2, ⟨1, ty_api_Distribution, [dGDistribution.enc a0], true⟩), (3, ⟨1, ty_api_Distribution, [dGDistribution.enc a1], true⟩), (4, ⟨1, ty_api_Curve, [[.v (.slice none 0 0)]], true⟩), (11, ⟨4, ty_api_Point, x40, false⟩), (40, ⟨1, ty_i64_2, List.map dI_i64.enc r4, false⟩), (42, ⟨1, ty_i64_2, List.map dI_i64.enc r5, false⟩)]⟩

theorem t_equating_Percentile_1 (a0 : GDistribution) (a1 : GDistribution) (r4 : (List Int)) (r5 : (List Int)) (c6 : Int) (c7 : Int) (x8 : List (List AV)) (x9 : Int) (x10 : Int) {y : AV × Mem} (h : (
  brn (decide (x9 < (↑(List.map dI_i64.enc a0.Counts).length : Int))) (brn (decide (x10 < (↑(List.map dI_i64.enc a1.Counts).length : Int))) (chk ((0 : Int) ≤ (w64 (x9 + 1))) <|
    chk ((w64 (x9 + 1) : Int) < ((↑(List.map dI_i64.enc r4).length : Int))) <|
    elemD dI_i64 (List.map dI_i64.enc r4) (0 + (w64 (x9 + 1)).toNat) fun (c11 : Int) =>
    chk ((0 : Int) ≤ (w64 (x10 + 1))) <|
    chk ((w64 (x10 + 1) : Int) < ((↑(List.map dI_i64.enc r5).length : Int))) <|
    elemD dI_i64 (List.map dI_i64.enc r5) (0 + (w64 (x10 + 1)).toNat) fun (c12 : Int) =>
    chk ((0 : Int) ≤ (w64 (x9 + 1))) <|
    chk ((w64 (x9 + 1) : Int) < ((↑(List.map dI_i64.enc r4).length : Int))) <|
    elemD dI_i64 (List.map dI_i64.enc r4) (0 + (w64 (x9 + 1)).toNat) fun (c13 : Int) =>
    brn (decide (w64 (c12 * c6) < w64 (c11 * c7))) (chk ((0 : Int) ≤ (w64 (x10 + 1))) <|
     chk ((w64 (x10 + 1) : Int) < ((↑(List.map dI_i64.enc r5).length : Int))) <|
     elemD dI_i64 (List.map dI_i64.enc r5) (0 + (w64 (x10 + 1)).toNat) fun (c14 : Int) =>
     k_equating_Percentile_1015 a0 a1 r4 r5 c6 c7 x10 x8 x9 (w64 (c11 * c7)) (w64 (c12 * c6)) c14)
    (k_equating_Percentile_1015v1 a0 a1 r4 r5 c6 c7 x10 x8 x9 (w64 (c11 * c7)) (w64 (c12 * c6)) c13))
   (k_equating_Percentile_1026 a0 a1 r4 r5 c6 c7 x10 x8 x9))
  (k_equating_Percentile_1026 a0 a1 r4 r5 c6 c7 x10 x8 x9)) = some y) : k_equating_Percentile_1 a0 a1 r4 r5 c6 c7 x8 x9 x10 = some y :=
  pt_of zT [26, 24, 15] (by kernel_rfl) h

theorem t_equating_Percentile_1015 (a0 : GDistribution) (a1 : GDistribution) (r4 : (List Int)) (r5 : (List Int)) (c6 : Int) (c7 : Int) (x10 : Int) (x15 : List (List AV)) (x16 : Int) (x17 : Int) (x18 : Int) (x19 : Int) {y : AV × Mem} (h : (
  chk (0 + (List.map dI_i64.enc r4).length ≤ (List.map dI_i64.enc r4).length) <|
  callD r_equating_number (cw f_equating_number [.sl 1 (List.take ((List.map dI_i64.enc r4).length) (List.map dI_i64.enc r4)), I x16, I x19, I c7] []) fun (r27 : GRatio × Int) =>
  brn (r27.snd != 0) (some (.tup [.agg (dGCurve.enc ⟨[]⟩), I r27.snd], []))
  (chk (0 + (List.map dI_i64.enc r5).length ≤ (List.map dI_i64.enc r5).length) <|
   callD r_equating_number (cw f_equating_number [.sl 1 (List.take ((List.map dI_i64.enc r5).length) (List.map dI_i64.enc r5)), I x10, I x19, I c7] []) fun (r28 : GRatio × Int) =>
   brn (r28.snd != 0) (some (.tup [.agg (dGCurve.enc ⟨[]⟩), I r28.snd], []))
   (chk (x15.length = x15.length) <|
    chk ((x15.length + 1) * (32 + 1) ≤ 1099511627776) <|
    chk ((x15 ++ [[AV.v (Go.Value.int IntKind.i64 r27.fst.Num), AV.v (Go.Value.int IntKind.i64 r27.fst.Den), AV.v (Go.Value.int IntKind.i64 r28.fst.Num), AV.v (Go.Value.int IntKind.i64 r28.fst.Den)]]).length = (x15 ++ [[AV.v (Go.Value.int IntKind.i64 r27.fst.Num), AV.v (Go.Value.int IntKind.i64 r27.fst.Den), AV.v (Go.Value.int IntKind.i64 r28.fst.Num), AV.v (Go.Value.int IntKind.i64 r28.fst.Den)]]).length) <|
    brn (decide (x17 ≤ x18)) (k_equating_Percentile_1024 a0 a1 r4 r5 c6 c7 x10 (x15 ++ ([dGPoint.enc (⟨⟨r27.fst.Num, r27.fst.Den⟩, ⟨r28.fst.Num, r28.fst.Den⟩⟩)])) (w64 (x16 + 1)) x17 x18)
    (k_equating_Percentile_1024v1 a0 a1 r4 r5 c6 c7 x10 (x15 ++ ([dGPoint.enc (⟨⟨r27.fst.Num, r27.fst.Den⟩, ⟨r28.fst.Num, r28.fst.Den⟩⟩)])) x16 x17 x18)))) = some y) : k_equating_Percentile_1015 a0 a1 r4 r5 c6 c7 x10 x15 x16 x17 x18 x19 = some y :=
  pt_of zT [26, 24, 15] (by kernel_rfl) h

theorem t_equating_Percentile_1015v1 (a0 : GDistribution) (a1 : GDistribution) (r4 : (List Int)) (r5 : (List Int)) (c6 : Int) (c7 : Int) (x10 : Int) (x20 : List (List AV)) (x21 : Int) (x22 : Int) (x23 : Int) (x24 : Int) {y : AV × Mem} (h : (
  chk (0 + (List.map dI_i64.enc r4).length ≤ (List.map dI_i64.enc r4).length) <|
  callD r_equating_number (cw f_equating_number [.sl 1 (List.take ((List.map dI_i64.enc r4).length) (List.map dI_i64.enc r4)), I x21, I x24, I c6] []) fun (r37 : GRatio × Int) =>
  brn (r37.snd != 0) (some (.tup [.agg (dGCurve.enc ⟨[]⟩), I r37.snd], []))
  (chk (0 + (List.map dI_i64.enc r5).length ≤ (List.map dI_i64.enc r5).length) <|
   callD r_equating_number (cw f_equating_number [.sl 1 (List.take ((List.map dI_i64.enc r5).length) (List.map dI_i64.enc r5)), I x10, I x24, I c6] []) fun (r38 : GRatio × Int) =>
   brn (r38.snd != 0) (some (.tup [.agg (dGCurve.enc ⟨[]⟩), I r38.snd], []))
   (chk (x20.length = x20.length) <|
    chk ((x20.length + 1) * (32 + 1) ≤ 1099511627776) <|
    chk ((x20 ++ [[AV.v (Go.Value.int IntKind.i64 r37.fst.Num), AV.v (Go.Value.int IntKind.i64 r37.fst.Den), AV.v (Go.Value.int IntKind.i64 r38.fst.Num), AV.v (Go.Value.int IntKind.i64 r38.fst.Den)]]).length = (x20 ++ [[AV.v (Go.Value.int IntKind.i64 r37.fst.Num), AV.v (Go.Value.int IntKind.i64 r37.fst.Den), AV.v (Go.Value.int IntKind.i64 r38.fst.Num), AV.v (Go.Value.int IntKind.i64 r38.fst.Den)]]).length) <|
    brn (decide (x22 ≤ x23)) (k_equating_Percentile_1024 a0 a1 r4 r5 c6 c7 x10 (x20 ++ ([dGPoint.enc (⟨⟨r37.fst.Num, r37.fst.Den⟩, ⟨r38.fst.Num, r38.fst.Den⟩⟩)])) (w64 (x21 + 1)) x22 x23)
    (k_equating_Percentile_1024v1 a0 a1 r4 r5 c6 c7 x10 (x20 ++ ([dGPoint.enc (⟨⟨r37.fst.Num, r37.fst.Den⟩, ⟨r38.fst.Num, r38.fst.Den⟩⟩)])) x21 x22 x23)))) = some y) : k_equating_Percentile_1015v1 a0 a1 r4 r5 c6 c7 x10 x20 x21 x22 x23 x24 = some y :=
  pt_of zT [26, 24, 15] (by kernel_rfl) h

theorem t_equating_Percentile_1026 (a0 : GDistribution) (a1 : GDistribution) (r4 : (List Int)) (r5 : (List Int)) (c6 : Int) (c7 : Int) (x10 : Int) (x25 : List (List AV)) (x26 : Int) {y : AV × Mem} (h : (
  chk (0 + x25.length ≤ x25.length) <|
  callD r_conversion_Normal (cw f_conversion_Normal [.agg [.sl 4 (List.take x25.length x25)]] []) fun (r39 : GCurve × Int) =>
  chk (0 + x25.length ≤ x25.length) <|
  chk (0 + x25.length ≤ x25.length) <|
  chk (0 + x25.length ≤ x25.length) <|
  some (.tup [.agg (dGCurve.enc r39.fst), I r39.snd], [])) = some y) : k_equating_Percentile_1026 a0 a1 r4 r5 c6 c7 x10 x25 x26 = some y :=
  pt_of zT [26, 24, 15] (by kernel_rfl) h

theorem t_equating_Percentile_1024 (a0 : GDistribution) (a1 : GDistribution) (r4 : (List Int)) (r5 : (List Int)) (c6 : Int) (c7 : Int) (x10 : Int) (x29 : List (List AV)) (x30 : Int) (x31 : Int) (x32 : Int) {y : AV × Mem} (h : (
  brn (decide (x32 ≤ x31)) (k_equating_Percentile_1 a0 a1 r4 r5 c6 c7 x29 x30 (w64 (x10 + 1)))
  (k_equating_Percentile_1v1 a0 a1 r4 r5 c6 c7 x10 x29 x30)) = some y) : k_equating_Percentile_1024 a0 a1 r4 r5 c6 c7 x10 x29 x30 x31 x32 = some y :=
  pt_of zT [26, 24, 15] (by kernel_rfl) h

theorem t_equating_Percentile_1024v1 (a0 : GDistribution) (a1 : GDistribution) (r4 : (List Int)) (r5 : (List Int)) (c6 : Int) (c7 : Int) (x10 : Int) (x33 : List (List AV)) (x34 : Int) (x35 : Int) (x36 : Int) {y : AV × Mem} (h : (
  brn (decide (x36 ≤ x35)) (k_equating_Percentile_1 a0 a1 r4 r5 c6 c7 x33 x34 (w64 (x10 + 1)))
  (k_equating_Percentile_1v1 a0 a1 r4 r5 c6 c7 x10 x33 x34)) = some y) : k_equating_Percentile_1024v1 a0 a1 r4 r5 c6 c7 x10 x33 x34 x35 x36 = some y :=
  pt_of zT [26, 24, 15] (by kernel_rfl) h

theorem t_equating_Percentile_1v1 (a0 : GDistribution) (a1 : GDistribution) (r4 : (List Int)) (r5 : (List Int)) (c6 : Int) (c7 : Int) (x10 : Int) (x40 : List (List AV)) (x41 : Int) {y : AV × Mem} (h : (
  brn (decide (x41 < (↑(List.map dI_i64.enc a0.Counts).length : Int))) (brn (decide (x10 < (↑(List.map dI_i64.enc a1.Counts).length : Int))) (chk ((0 : Int) ≤ (w64 (x41 + 1))) <|
    chk ((w64 (x41 + 1) : Int) < ((↑(List.map dI_i64.enc r4).length : Int))) <|
    elemD dI_i64 (List.map dI_i64.enc r4) (0 + (w64 (x41 + 1)).toNat) fun (c42 : Int) =>
    chk ((0 : Int) ≤ (w64 (x10 + 1))) <|
    chk ((w64 (x10 + 1) : Int) < ((↑(List.map dI_i64.enc r5).length : Int))) <|
    elemD dI_i64 (List.map dI_i64.enc r5) (0 + (w64 (x10 + 1)).toNat) fun (c43 : Int) =>
    chk ((0 : Int) ≤ (w64 (x41 + 1))) <|
    chk ((w64 (x41 + 1) : Int) < ((↑(List.map dI_i64.enc r4).length : Int))) <|
    elemD dI_i64 (List.map dI_i64.enc r4) (0 + (w64 (x41 + 1)).toNat) fun (c44 : Int) =>
    brn (decide (w64 (c43 * c6) < w64 (c42 * c7))) (chk ((0 : Int) ≤ (w64 (x10 + 1))) <|
     chk ((w64 (x10 + 1) : Int) < ((↑(List.map dI_i64.enc r5).length : Int))) <|
     elemD dI_i64 (List.map dI_i64.enc r5) (0 + (w64 (x10 + 1)).toNat) fun (c45 : Int) =>
     k_equating_Percentile_1015 a0 a1 r4 r5 c6 c7 x10 x40 x41 (w64 (c42 * c7)) (w64 (c43 * c6)) c45)
    (k_equating_Percentile_1015v1 a0 a1 r4 r5 c6 c7 x10 x40 x41 (w64 (c42 * c7)) (w64 (c43 * c6)) c44))
   (k_equating_Percentile_1026 a0 a1 r4 r5 c6 c7 x10 x40 x41))
  (k_equating_Percentile_1026 a0 a1 r4 r5 c6 c7 x10 x40 x41)) = some y) : k_equating_Percentile_1v1 a0 a1 r4 r5 c6 c7 x10 x40 x41 = some y :=
  pt_of zT [26, 24, 15] (by kernel_rfl) h

theorem e_equating_Percentile (a0 : GDistribution) (a1 : GDistribution) {y : AV × Mem} (h : (
  callD r_distribution_Valid (cw f_distribution_Valid [.agg (dGDistribution.enc a0)] []) fun (r0 : Bool) =>
  brn (!r0) (some (.tup [.agg (dGCurve.enc ⟨[]⟩), I 1], []))
  (callD r_distribution_Valid (cw f_distribution_Valid [.agg (dGDistribution.enc a1)] []) fun (r1 : Bool) =>
   brn (!r1) (some (.tup [.agg (dGCurve.enc ⟨[]⟩), I 1], []))
   (callD r_slices_Contains_int_int (cw f_slices_Contains_int_int [.sl 1 (List.map dI_i64.enc a0.Counts), I 0] []) fun (r2 : Bool) =>
    brn r2 (some (.tup [.agg (dGCurve.enc ⟨[]⟩), I 10], []))
    (callD r_slices_Contains_int_int (cw f_slices_Contains_int_int [.sl 1 (List.map dI_i64.enc a1.Counts), I 0] []) fun (r3 : Bool) =>
     brn r3 (some (.tup [.agg (dGCurve.enc ⟨[]⟩), I 10], []))
     (callD r_equating_sums (cw f_equating_sums [.agg (dGDistribution.enc a0)] []) fun (r4 : (List Int)) =>
      callD r_equating_sums (cw f_equating_sums [.agg (dGDistribution.enc a1)] []) fun (r5 : (List Int)) =>
      chk ((0 : Int) ≤ (w64 ((↑(List.map dI_i64.enc r4).length : Int) - 1))) <|
      chk ((w64 ((↑(List.map dI_i64.enc r4).length : Int) - 1) : Int) < ((↑(List.map dI_i64.enc r4).length : Int))) <|
      elemD dI_i64 (List.map dI_i64.enc r4) (0 + (w64 ((↑(List.map dI_i64.enc r4).length : Int) - 1)).toNat) fun (c6 : Int) =>
      chk ((0 : Int) ≤ (w64 ((↑(List.map dI_i64.enc r5).length : Int) - 1))) <|
      chk ((w64 ((↑(List.map dI_i64.enc r5).length : Int) - 1) : Int) < ((↑(List.map dI_i64.enc r5).length : Int))) <|
      elemD dI_i64 (List.map dI_i64.enc r5) (0 + (w64 ((↑(List.map dI_i64.enc r5).length : Int) - 1)).toNat) fun (c7 : Int) =>
      chk (1 = 1) <|
      k_equating_Percentile_1 a0 a1 r4 r5 c6 c7 ([dGPoint.enc (⟨⟨-1, 2⟩, ⟨-1, 2⟩⟩)]) 0 0))))) = some y) : cw f_equating_Percentile [.agg (dGDistribution.enc a0), .agg (dGDistribution.enc a1)] [] = some y :=
  callw_tree R_equating_Percentile zT [26, 24, 15] (by kernel_rfl) (by kernel_rfl) (by kernel_rfl) (by kernel_rfl) (by kernel_rfl) h

theorem e_ref32_Count (a0 : GDistribution) {y : AV × Mem} (h : (
  callD r_ref32_Below (cw f_ref32_Below [.agg (dGDistribution.enc a0), I ((↑(List.map dI_i64.enc a0.Counts).length : Int))] []) fun (r0 : Int) =>
  some (I r0, [])) = some y) : cw f_ref32_Count [.agg (dGDistribution.enc a0)] [] = some y :=
  callw_tree R_ref32_Count zT [] (by kernel_rfl) (by kernel_rfl) (by kernel_rfl) (by kernel_rfl) (by kernel_rfl) h

theorem e_ref01_New (a0 : Int) (a1 : Int) {y : AV × Mem} (h : (
  brn (a1 == 0) (some (.tup [.agg (dGRatio.enc (⟨0, 0⟩)), I 2], []))
  (callD r_ref01_Size (cw f_ref01_Size [I a0] []) fun (r0 : Int) =>
   callD r_ref01_Size (cw f_ref01_Size [I a1] []) fun (r1 : Int) =>
   callD r_ref01_Reduce (cw f_ref01_Reduce [B (!decide (a0 < 0) == decide (a1 < 0)), .agg (dGref01Wide.enc (⟨0, r0⟩)), .agg (dGref01Wide.enc (⟨0, r1⟩))] []) fun (r2 : GRatio × Int) =>
   some (.tup [.agg (dGRatio.enc r2.fst), I r2.snd], []))) = some y) : cw f_ref01_New [I a0, I a1] [] = some y :=
  callw_tree R_ref01_New zT [] (by kernel_rfl) (by kernel_rfl) (by kernel_rfl) (by kernel_rfl) (by kernel_rfl) h

end Go.Proofs.Ythhedegaeeadhaa
