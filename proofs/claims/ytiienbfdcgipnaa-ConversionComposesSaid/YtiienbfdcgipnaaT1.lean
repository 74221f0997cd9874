/- What the functions compute, between two cut points: printed by a program, checked by the kernel. -/
import Derived.Test.YtiienbfdcgipnaaAnn
namespace Go.Proofs.Ytiienbfdcgipnaa
open Go.Ab
set_option maxRecDepth 100000
set_option linter.unusedVariables false

noncomputable def k_law33_ConversionRises_1 (r3 : GCurve × GmarkDice) (r4 : GCurve × Int) (x7 : Int) : Option (AV × Mem) := pt R_law33_ConversionRises 1 ⟨[(3, .loc 25 2 0 0), (4, .loc 4 1 0 0), (5, .loc 5 1 0 0), (47, .sl 4 (List.map dGPoint.enc r3.fst.Points)), (48, I ((↑(List.map dGPoint.enc r3.fst.Points).length : Int))), (49, I x7)], [(4, ⟨1, ty_api_Curve, [dGCurve.enc r3.fst], true⟩), (5, ⟨1, ty_api_Curve, [dGCurve.enc r4.fst], true⟩), (25, ⟨2, ty_mark_Dice, [dGmarkDice.enc r3.snd], true⟩)]⟩

noncomputable def k_law33_ConversionRises_2 (r3 : GCurve × GmarkDice) (r4 : GCurve × Int) (x10 : GmarkDice) (x11 : Int) : Option (AV × Mem) := pt R_law33_ConversionRises 2 ⟨[(3, .loc 25 2 0 0), (4, .loc 4 1 0 0), (5, .loc 5 1 0 0), (11, I x11)], [(4, ⟨1, ty_api_Curve, [dGCurve.enc r3.fst], true⟩), (5, ⟨1, ty_api_Curve, [dGCurve.enc r4.fst], true⟩), (25, ⟨2, ty_mark_Dice, [dGmarkDice.enc x10], true⟩)]⟩

theorem t_law33_ConversionRises_1 (r3 : GCurve × GmarkDice) (r4 : GCurve × Int) (x7 : Int) {y : AV × Mem} (h : (
  brn (decide (x7 < (↑(List.map dGPoint.enc r3.fst.Points).length : Int))) (chk ((0 : Int) ≤ x7) <|
   elemD dGPoint (List.map dGPoint.enc r3.fst.Points) x7.toNat fun (c8 : GPoint) =>
   callD r_conversion_Eval (cw f_conversion_Eval [.agg (dGCurve.enc r3.fst), .agg (dGRatio.enc c8.X)] []) fun (r9 : GRatio × Int) =>
   brn (r9.snd != 0) (some (B false, []))
   (brn (!(r9.fst.Num == c8.Y.Num && (r9.fst.Den == c8.Y.Den && true))) (some (B false, []))
    (k_law33_ConversionRises_1 r3 r4 (w64 (x7 + 1)))))
  (k_law33_ConversionRises_2 r3 r4 r3.snd 0)) = some y) : k_law33_ConversionRises_1 r3 r4 x7 = some y :=
  pt_of zT [] (by kernel_rfl) h

theorem t_law33_ConversionRises_2 (r3 : GCurve × GmarkDice) (r4 : GCurve × Int) (x10 : GmarkDice) (x11 : Int) {y : AV × Mem} (h : (
  brn (decide (x11 < 5)) (callD r_mark_Dice_Ratio (cw f_mark_Dice_Ratio [.loc 1000 2 0 0] [(1000, ⟨2, ty_mark_Dice, [dGmarkDice.enc x10], true⟩)]) fun (r12 : GRatio × GmarkDice) =>
   callD r_mark_Dice_Ratio (cw f_mark_Dice_Ratio [.loc 1000 2 0 0] [(1000, ⟨2, ty_mark_Dice, [dGmarkDice.enc r12.snd], true⟩)]) fun (r13 : GRatio × GmarkDice) =>
   callD r_conversion_Eval (cw f_conversion_Eval [.agg (dGCurve.enc r3.fst), .agg (dGRatio.enc r12.fst)] []) fun (r14 : GRatio × Int) =>
   callD r_conversion_Eval (cw f_conversion_Eval [.agg (dGCurve.enc r3.fst), .agg (dGRatio.enc r13.fst)] []) fun (r15 : GRatio × Int) =>
   callD r_conversion_Eval (cw f_conversion_Eval [.agg (dGCurve.enc r4.fst), .agg (dGRatio.enc r12.fst)] []) fun (r16 : GRatio × Int) =>
   brn (r14.snd != 0) (some (B false, []))
   (brn (r15.snd != 0) (some (B false, []))
    (brn (r16.snd != 0) (some (B false, []))
     (brn (!(r16.fst.Num == r14.fst.Num && (r16.fst.Den == r14.fst.Den && true))) (some (B false, []))
      (callD r_ref01_Less (cw f_ref01_Less [.agg (dGRatio.enc r12.fst), .agg (dGRatio.enc r13.fst)] []) fun (r17 : Bool) =>
       callD r_ref01_Less (cw f_ref01_Less [.agg (dGRatio.enc r14.fst), .agg (dGRatio.enc r15.fst)] []) fun (r18 : Bool) =>
       brn (!r17 == r18) (some (B false, []))
       (brn (!(r12.fst.Num == r13.fst.Num && (r12.fst.Den == r13.fst.Den && true)) == (r14.fst.Num == r15.fst.Num && (r14.fst.Den == r15.fst.Den && true))) (some (B false, []))
        (k_law33_ConversionRises_2 r3 r4 r13.snd (w64 (x11 + 1)))))))))
  (callD r_law33_sane (cw f_law33_sane [] []) fun (r19 : Bool) =>
   some (B r19, []))) = some y) : k_law33_ConversionRises_2 r3 r4 x10 x11 = some y :=
  pt_of zT [] (by kernel_rfl) h

theorem e_law33_ConversionRises (a0 : List Int) {y : AV × Mem} (h : (
  callD r_mark_Light (cw f_mark_Light [.sl 1 (List.map dI_i64.enc a0)] []) fun (r0 : Bool) =>
  brn (!r0) (callD r_law33_sane (cw f_law33_sane [] []) fun (r1 : Bool) =>
   some (B r1, []))
  (callD r_mark_Roll (cw f_mark_Roll [.sl 1 (List.map dI_i64.enc a0)] []) fun (r2 : GmarkDice) =>
   callD r_mark_Dice_Curve (cw f_mark_Dice_Curve [.loc 1000 2 0 0] [(1000, ⟨2, ty_mark_Dice, [dGmarkDice.enc r2], true⟩)]) fun (r3 : GCurve × GmarkDice) =>
   callD r_conversion_Normal (cw f_conversion_Normal [.agg (dGCurve.enc r3.fst)] []) fun (r4 : GCurve × Int) =>
   brn (r4.snd != 0) (some (B false, []))
   (callD r_conversion_Same (cw f_conversion_Same [.agg (dGCurve.enc r3.fst), .agg (dGCurve.enc r4.fst)] []) fun (r5 : Bool) =>
    brn (!r5) (some (B false, []))
    (callD r_conversion_Valid (cw f_conversion_Valid [.agg (dGCurve.enc r4.fst)] []) fun (r6 : Bool) =>
     brn (!r6) (some (B false, []))
     (k_law33_ConversionRises_1 r3 r4 0))))) = some y) : cw f_law33_ConversionRises [.sl 1 (List.map dI_i64.enc a0)] [] = some y :=
  callw_tree R_law33_ConversionRises zT [] (by kernel_rfl) (by kernel_rfl) (by kernel_rfl) (by kernel_rfl) (by kernel_rfl) h

noncomputable def k_law33_ConversionMarks_1 (a1 : Int) (r3 : GCurve × GmarkDice) (x4 : Int) (x5 : Int) : Option (AV × Mem) := pt R_law33_ConversionMarks 1 ⟨[(5, .loc 5 1 0 0), (6, I ((w64 a1).tmod 60)), (7, I x4), (8, I x5)], [(5, ⟨1, ty_api_Curve, [dGCurve.enc r3.fst], true⟩)]⟩

theorem t_law33_ConversionMarks_1 (a1 : Int) (r3 : GCurve × GmarkDice) (x4 : Int) (x5 : Int) {y : AV × Mem} (h : (
  brn (decide (x5 < 25)) (callD r_conversion_Convert (cw f_conversion_Convert [.agg (dGCurve.enc r3.fst), I x5, I ((w64 a1).tmod 60)] []) fun (r6 : Int × Int) =>
   callD r_law33_whole (cw f_law33_whole [I x5] []) fun (r7 : GRatio) =>
   callD r_conversion_Eval (cw f_conversion_Eval [.agg (dGCurve.enc r3.fst), .agg (dGRatio.enc r7)] []) fun (r8 : GRatio × Int) =>
   brn (r6.snd != 0) (some (B false, []))
   (brn (r8.snd != 0) (some (B false, []))
    (brn (decide (r6.fst < x4)) (some (B false, []))
     (brn (decide (r6.fst < 0)) (some (B false, []))
      (brn (decide ((w64 a1).tmod 60 < r6.fst)) (some (B false, []))
       (brn (decide (0 < r6.fst)) (brn (decide (r6.fst < (w64 a1).tmod 60)) (brn (decide (w64 (r8.fst.Num * 2) < w64 (w64 (w64 (2 * r6.fst) - 1) * r8.fst.Den))) (some (B false, []))
          (brn (decide (w64 (w64 (w64 (2 * r6.fst) + 1) * r8.fst.Den) ≤ w64 (r8.fst.Num * 2))) (some (B false, []))
           (k_law33_ConversionMarks_1 a1 r3 r6.fst (w64 (x5 + 1)))))
         (k_law33_ConversionMarks_1 a1 r3 r6.fst (w64 (x5 + 1))))
        (k_law33_ConversionMarks_1 a1 r3 r6.fst (w64 (x5 + 1)))))))))
  (callD r_law33_sane (cw f_law33_sane [] []) fun (r9 : Bool) =>
   some (B r9, []))) = some y) : k_law33_ConversionMarks_1 a1 r3 x4 x5 = some y :=
  pt_of zT [] (by kernel_rfl) h

theorem e_law33_ConversionMarks (a0 : List Int) (a1 : Int) {y : AV × Mem} (h : (
  callD r_mark_Light (cw f_mark_Light [.sl 1 (List.map dI_i64.enc a0)] []) fun (r0 : Bool) =>
  brn (!r0) (callD r_law33_sane (cw f_law33_sane [] []) fun (r1 : Bool) =>
   some (B r1, []))
  (callD r_mark_Roll (cw f_mark_Roll [.sl 1 (List.map dI_i64.enc a0)] []) fun (r2 : GmarkDice) =>
   callD r_mark_Dice_Curve (cw f_mark_Dice_Curve [.loc 1000 2 0 0] [(1000, ⟨2, ty_mark_Dice, [dGmarkDice.enc r2], true⟩)]) fun (r3 : GCurve × GmarkDice) =>
   chk ((60 : Int) ≠ 0) <|
   k_law33_ConversionMarks_1 a1 r3 0 0)) = some y) : cw f_law33_ConversionMarks [.sl 1 (List.map dI_i64.enc a0), .v (.int .u8 a1)] [] = some y :=
  callw_tree R_law33_ConversionMarks zT [] (by kernel_rfl) (by kernel_rfl) (by kernel_rfl) (by kernel_rfl) (by kernel_rfl) h

noncomputable def k_law33_ConversionComposes_1 (r3 : GCurve × GmarkDice) (r6 : GCurve × Int) (r7 : GCurve × Int) (r8 : GCurve × Int) (r9 : GCurve × Int) (r12 : GCurve × Int) (r13 : GCurve × Int) (r14 : GCurve × Int) (r16 : GRatio × Int) (r17 : GRatio × Int) (r18 : GRatio × Int) (x19 : Int) : Option (AV × Mem) := pt R_law33_ConversionComposes 1 ⟨[(4, .loc 4 1 0 0), (11, .loc 11 1 0 0), (13, .loc 13 1 0 0), (17, .loc 17 1 0 0), (19, .loc 19 1 0 0), (24, .loc 24 2 0 0), (26, .loc 26 2 0 0), (114, .agg [I r6.snd, I r7.snd, I r8.snd, I r9.snd, I r12.snd, I r13.snd, I r14.snd, I r16.snd, I r17.snd, I r18.snd]), (115, I x19)], [(4, ⟨1, ty_api_Curve, [dGCurve.enc r3.fst], true⟩), (11, ⟨1, ty_api_Curve, [dGCurve.enc r8.fst], true⟩), (13, ⟨1, ty_api_Curve, [dGCurve.enc r9.fst], true⟩), (17, ⟨1, ty_api_Curve, [dGCurve.enc r13.fst], true⟩), (19, ⟨1, ty_api_Curve, [dGCurve.enc r14.fst], true⟩), (24, ⟨2, ty_api_Ratio, [dGRatio.enc r17.fst], true⟩), (26, ⟨2, ty_api_Ratio, [dGRatio.enc r18.fst], true⟩)]⟩

theorem t_law33_ConversionComposes_1 (r3 : GCurve × GmarkDice) (r6 : GCurve × Int) (r7 : GCurve × Int) (r8 : GCurve × Int) (r9 : GCurve × Int) (r12 : GCurve × Int) (r13 : GCurve × Int) (r14 : GCurve × Int) (r16 : GRatio × Int) (r17 : GRatio × Int) (r18 : GRatio × Int) (x19 : Int) {y : AV × Mem} (h : (
  brn (decide (x19 < 10)) (chk ((0 : Int) ≤ x19) <|
   chk ((x19 : Int) < (↑10 : Int)) <|
   elemD dI_i64 ([dI_i64.enc r6.snd, dI_i64.enc r7.snd, dI_i64.enc r8.snd, dI_i64.enc r9.snd, dI_i64.enc r12.snd, dI_i64.enc r13.snd, dI_i64.enc r14.snd, dI_i64.enc r16.snd, dI_i64.enc r17.snd, dI_i64.enc r18.snd]) x19.toNat fun (c20 : Int) =>
   brn (c20 != 0) (some (B false, []))
   (k_law33_ConversionComposes_1 r3 r6 r7 r8 r9 r12 r13 r14 r16 r17 r18 (w64 (x19 + 1))))
  (brn (r18.fst.Num == r17.fst.Num && (r18.fst.Den == r17.fst.Den && true)) (callD r_conversion_Same (cw f_conversion_Same [.agg (dGCurve.enc r8.fst), .agg (dGCurve.enc r9.fst)] []) fun (r21 : Bool) =>
    brn r21 (callD r_conversion_Same (cw f_conversion_Same [.agg (dGCurve.enc r13.fst), .agg (dGCurve.enc r3.fst)] []) fun (r22 : Bool) =>
     brn r22 (callD r_conversion_Same (cw f_conversion_Same [.agg (dGCurve.enc r14.fst), .agg (dGCurve.enc r3.fst)] []) fun (r23 : Bool) =>
      brn r23 (callD r_law33_sane (cw f_law33_sane [] []) fun (r24 : Bool) =>
       some (B r24, []))
      (some (B false, [])))
     (some (B false, [])))
    (some (B false, [])))
   (some (B false, [])))) = some y) : k_law33_ConversionComposes_1 r3 r6 r7 r8 r9 r12 r13 r14 r16 r17 r18 x19 = some y :=
  pt_of zT [] (by kernel_rfl) h

theorem e_law33_ConversionComposes (a0 : List Int) {y : AV × Mem} (h : (
  callD r_mark_Light (cw f_mark_Light [.sl 1 (List.map dI_i64.enc a0)] []) fun (r0 : Bool) =>
  brn (!r0) (callD r_law33_sane (cw f_law33_sane [] []) fun (r1 : Bool) =>
   some (B r1, []))
  (callD r_mark_Roll (cw f_mark_Roll [.sl 1 (List.map dI_i64.enc a0)] []) fun (r2 : GmarkDice) =>
   callD r_mark_Dice_Curve (cw f_mark_Dice_Curve [.loc 1000 2 0 0] [(1000, ⟨2, ty_mark_Dice, [dGmarkDice.enc r2], true⟩)]) fun (r3 : GCurve × GmarkDice) =>
   callD r_mark_Dice_Curve (cw f_mark_Dice_Curve [.loc 1000 2 0 0] [(1000, ⟨2, ty_mark_Dice, [dGmarkDice.enc r3.snd], true⟩)]) fun (r4 : GCurve × GmarkDice) =>
   callD r_mark_Dice_Curve (cw f_mark_Dice_Curve [.loc 1000 2 0 0] [(1000, ⟨2, ty_mark_Dice, [dGmarkDice.enc r4.snd], true⟩)]) fun (r5 : GCurve × GmarkDice) =>
   callD r_conversion_Compose (cw f_conversion_Compose [.agg (dGCurve.enc r3.fst), .agg (dGCurve.enc r4.fst)] []) fun (r6 : GCurve × Int) =>
   callD r_conversion_Compose (cw f_conversion_Compose [.agg (dGCurve.enc r4.fst), .agg (dGCurve.enc r5.fst)] []) fun (r7 : GCurve × Int) =>
   callD r_conversion_Compose (cw f_conversion_Compose [.agg (dGCurve.enc r6.fst), .agg (dGCurve.enc r5.fst)] []) fun (r8 : GCurve × Int) =>
   callD r_conversion_Compose (cw f_conversion_Compose [.agg (dGCurve.enc r3.fst), .agg (dGCurve.enc r7.fst)] []) fun (r9 : GCurve × Int) =>
   callD r_law33_whole (cw f_law33_whole [I 1] []) fun (r10 : GRatio) =>
   callD r_law33_whole (cw f_law33_whole [I 0] []) fun (r11 : GRatio) =>
   callD r_conversion_Line (cw f_conversion_Line [.agg (dGRatio.enc r10), .agg (dGRatio.enc r11)] []) fun (r12 : GCurve × Int) =>
   callD r_conversion_Compose (cw f_conversion_Compose [.agg (dGCurve.enc r12.fst), .agg (dGCurve.enc r3.fst)] []) fun (r13 : GCurve × Int) =>
   callD r_conversion_Compose (cw f_conversion_Compose [.agg (dGCurve.enc r3.fst), .agg (dGCurve.enc r12.fst)] []) fun (r14 : GCurve × Int) =>
   callD r_mark_Dice_Ratio (cw f_mark_Dice_Ratio [.loc 1000 2 0 0] [(1000, ⟨2, ty_mark_Dice, [dGmarkDice.enc r5.snd], true⟩)]) fun (r15 : GRatio × GmarkDice) =>
   callD r_conversion_Eval (cw f_conversion_Eval [.agg (dGCurve.enc r3.fst), .agg (dGRatio.enc r15.fst)] []) fun (r16 : GRatio × Int) =>
   callD r_conversion_Eval (cw f_conversion_Eval [.agg (dGCurve.enc r4.fst), .agg (dGRatio.enc r16.fst)] []) fun (r17 : GRatio × Int) =>
   callD r_conversion_Eval (cw f_conversion_Eval [.agg (dGCurve.enc r6.fst), .agg (dGRatio.enc r15.fst)] []) fun (r18 : GRatio × Int) =>
   k_law33_ConversionComposes_1 r3 r6 r7 r8 r9 r12 r13 r14 r16 r17 r18 0)) = some y) : cw f_law33_ConversionComposes [.sl 1 (List.map dI_i64.enc a0)] [] = some y :=
  callw_tree R_law33_ConversionComposes zT [] (by kernel_rfl) (by kernel_rfl) (by kernel_rfl) (by kernel_rfl) (by kernel_rfl) h

theorem e_law33_ConversionInverse (a0 : List Int) {y : AV × Mem} (h : (
  callD r_mark_Light (cw f_mark_Light [.sl 1 (List.map dI_i64.enc a0)] []) fun (r0 : Bool) =>
  brn (!r0) (callD r_law33_sane (cw f_law33_sane [] []) fun (r1 : Bool) =>
   some (B r1, []))
  (callD r_mark_Roll (cw f_mark_Roll [.sl 1 (List.map dI_i64.enc a0)] []) fun (r2 : GmarkDice) =>
   callD r_mark_Dice_Curve (cw f_mark_Dice_Curve [.loc 1000 2 0 0] [(1000, ⟨2, ty_mark_Dice, [dGmarkDice.enc r2], true⟩)]) fun (r3 : GCurve × GmarkDice) =>
   callD r_conversion_Inverse (cw f_conversion_Inverse [.agg (dGCurve.enc r3.fst)] []) fun (r4 : GCurve × Int) =>
   callD r_conversion_Inverse (cw f_conversion_Inverse [.agg (dGCurve.enc r4.fst)] []) fun (r5 : GCurve × Int) =>
   callD r_mark_Dice_Ratio (cw f_mark_Dice_Ratio [.loc 1000 2 0 0] [(1000, ⟨2, ty_mark_Dice, [dGmarkDice.enc r3.snd], true⟩)]) fun (r6 : GRatio × GmarkDice) =>
   callD r_conversion_Eval (cw f_conversion_Eval [.agg (dGCurve.enc r3.fst), .agg (dGRatio.enc r6.fst)] []) fun (r7 : GRatio × Int) =>
   callD r_conversion_Eval (cw f_conversion_Eval [.agg (dGCurve.enc r4.fst), .agg (dGRatio.enc r7.fst)] []) fun (r8 : GRatio × Int) =>
   callD r_conversion_Compose (cw f_conversion_Compose [.agg (dGCurve.enc r3.fst), .agg (dGCurve.enc r4.fst)] []) fun (r9 : GCurve × Int) =>
   callD r_conversion_Compose (cw f_conversion_Compose [.agg (dGCurve.enc r4.fst), .agg (dGCurve.enc r3.fst)] []) fun (r10 : GCurve × Int) =>
   callD r_law33_whole (cw f_law33_whole [I 1] []) fun (r11 : GRatio) =>
   callD r_law33_whole (cw f_law33_whole [I 0] []) fun (r12 : GRatio) =>
   callD r_conversion_Line (cw f_conversion_Line [.agg (dGRatio.enc r11), .agg (dGRatio.enc r12)] []) fun (r13 : GCurve × Int) =>
   brn (r4.snd == 0) (brn (r5.snd == 0) (brn (r7.snd == 0) (brn (r8.snd == 0) (brn (r9.snd == 0) (brn (r10.snd == 0) (brn (r13.snd == 0) (brn (r8.fst.Num == r6.fst.Num && (r8.fst.Den == r6.fst.Den && true)) (callD r_conversion_Same (cw f_conversion_Same [.agg (dGCurve.enc r5.fst), .agg (dGCurve.enc r3.fst)] []) fun (r14 : Bool) =>
           brn r14 (callD r_conversion_Same (cw f_conversion_Same [.agg (dGCurve.enc r9.fst), .agg (dGCurve.enc r13.fst)] []) fun (r15 : Bool) =>
            brn r15 (callD r_conversion_Same (cw f_conversion_Same [.agg (dGCurve.enc r10.fst), .agg (dGCurve.enc r13.fst)] []) fun (r16 : Bool) =>
             brn r16 (callD r_law33_sane (cw f_law33_sane [] []) fun (r17 : Bool) =>
              some (B r17, []))
             (some (B false, [])))
            (some (B false, [])))
           (some (B false, [])))
          (some (B false, [])))
         (some (B false, [])))
        (some (B false, [])))
       (some (B false, [])))
      (some (B false, [])))
     (some (B false, [])))
    (some (B false, [])))
   (some (B false, [])))) = some y) : cw f_law33_ConversionInverse [.sl 1 (List.map dI_i64.enc a0)] [] = some y :=
  callw_tree R_law33_ConversionInverse zT [] (by kernel_rfl) (by kernel_rfl) (by kernel_rfl) (by kernel_rfl) (by kernel_rfl) h

theorem e_mark_Light (a0 : List Int) {y : AV × Mem} (h : (
  some (B (decide ((↑(List.map dI_i64.enc a0).length : Int) ≤ 600)), [])) = some y) : cw f_mark_Light [.sl 1 (List.map dI_i64.enc a0)] [] = some y :=
  callw_tree R_mark_Light zT [] (by kernel_rfl) (by kernel_rfl) (by kernel_rfl) (by kernel_rfl) (by kernel_rfl) h

theorem e_law33_sane {y : AV × Mem} (h : (
  callD r_law33_whole (cw f_law33_whole [I 0] []) fun (r0 : GRatio) =>
  callD r_law33_whole (cw f_law33_whole [I 0] []) fun (r1 : GRatio) =>
  callD r_law33_whole (cw f_law33_whole [I 2] []) fun (r2 : GRatio) =>
  callD r_law33_whole (cw f_law33_whole [I 4] []) fun (r3 : GRatio) =>
  callD r_law33_whole (cw f_law33_whole [I 3] []) fun (r4 : GRatio) =>
  callD r_law33_whole (cw f_law33_whole [I 5] []) fun (r5 : GRatio) =>
  callD r_law33_whole (cw f_law33_whole [I 1] []) fun (r6 : GRatio) =>
  callD r_conversion_Eval (cw f_conversion_Eval [.agg (dGCurve.enc (⟨[⟨⟨r0.Num, r0.Den⟩, ⟨r1.Num, r1.Den⟩⟩, ⟨⟨r2.Num, r2.Den⟩, ⟨r3.Num, r3.Den⟩⟩, ⟨⟨r4.Num, r4.Den⟩, ⟨r5.Num, r5.Den⟩⟩]⟩)), .agg (dGRatio.enc r6)] []) fun (r7 : GRatio × Int) =>
  callD r_law33_whole (cw f_law33_whole [I 4] []) fun (r8 : GRatio) =>
  callD r_conversion_Eval (cw f_conversion_Eval [.agg (dGCurve.enc (⟨[⟨⟨r0.Num, r0.Den⟩, ⟨r1.Num, r1.Den⟩⟩, ⟨⟨r2.Num, r2.Den⟩, ⟨r3.Num, r3.Den⟩⟩, ⟨⟨r4.Num, r4.Den⟩, ⟨r5.Num, r5.Den⟩⟩]⟩)), .agg (dGRatio.enc r8)] []) fun (r9 : GRatio × Int) =>
  callD r_conversion_Normal (cw f_conversion_Normal [.agg (dGCurve.enc (⟨[⟨⟨r0.Num, r0.Den⟩, ⟨r1.Num, r1.Den⟩⟩, ⟨⟨r2.Num, r2.Den⟩, ⟨r3.Num, r3.Den⟩⟩, ⟨⟨r4.Num, r4.Den⟩, ⟨r5.Num, r5.Den⟩⟩]⟩))] []) fun (r10 : GCurve × Int) =>
  callD r_law33_whole (cw f_law33_whole [I 2] []) fun (r11 : GRatio) =>
  callD r_law33_whole (cw f_law33_whole [I 1] []) fun (r12 : GRatio) =>
  callD r_conversion_Line (cw f_conversion_Line [.agg (dGRatio.enc r11), .agg (dGRatio.enc r12)] []) fun (r13 : GCurve × Int) =>
  brn (r7.snd == 0) (brn (r9.snd == 0) (brn (r10.snd == 0) (brn (r13.snd == 0) (callD r_law33_whole (cw f_law33_whole [I 2] []) fun (r14 : GRatio) =>
      brn (r7.fst.Num == r14.Num && (r7.fst.Den == r14.Den && true)) (callD r_law33_whole (cw f_law33_whole [I 6] []) fun (r15 : GRatio) =>
       brn (r9.fst.Num == r15.Num && (r9.fst.Den == r15.Den && true)) (brn ((↑(List.map dGPoint.enc r10.fst.Points).length : Int) == 3) (chk ((0 : Int) ≤ 0) <|
         elemD dGPoint (List.map dGPoint.enc r10.fst.Points) (Int.toNat 0) fun (c16 : GPoint) =>
         callD r_law33_whole (cw f_law33_whole [I 1] []) fun (r17 : GRatio) =>
         callD r_law33_whole (cw f_law33_whole [I 2] []) fun (r18 : GRatio) =>
         brn (c16.X.Num == r17.Num && (c16.X.Den == r17.Den && true) && (c16.Y.Num == r18.Num && (c16.Y.Den == r18.Den && true) && true)) (brn ((↑(List.map dGPoint.enc r13.fst.Points).length : Int) == 2) (chk ((0 : Int) ≤ 1) <|
           elemD dGPoint (List.map dGPoint.enc r13.fst.Points) (Int.toNat 1) fun (c19 : GPoint) =>
           callD r_law33_whole (cw f_law33_whole [I 1] []) fun (r20 : GRatio) =>
           callD r_law33_whole (cw f_law33_whole [I 3] []) fun (r21 : GRatio) =>
           some (B (c19.X.Num == r20.Num && (c19.X.Den == r20.Den && true) && (c19.Y.Num == r21.Num && (c19.Y.Den == r21.Den && true) && true)), []))
          (some (B false, [])))
         (some (B false, [])))
        (some (B false, [])))
       (some (B false, [])))
      (some (B false, [])))
     (some (B false, [])))
    (some (B false, [])))
   (some (B false, [])))
  (some (B false, []))) = some y) : cw f_law33_sane [] [] = some y :=
  callw_tree R_law33_sane zT [] (by kernel_rfl) (by kernel_rfl) (by kernel_rfl) (by kernel_rfl) (by kernel_rfl) h

theorem e_mark_Roll (a0 : List Int) {y : AV × Mem} (h : (
  some (.newp 2 ty_mark_Dice (dGmarkDice.enc (⟨a0, 0⟩)), [])) = some y) : cw f_mark_Roll [.sl 1 (List.map dI_i64.enc a0)] [] = some y :=
  callw_tree R_mark_Roll zT [] (by kernel_rfl) (by kernel_rfl) (by kernel_rfl) (by kernel_rfl) (by kernel_rfl) h

noncomputable def k_mark_Dice_Curve_1 (x3 : List (List AV)) (x4 : GmarkDice) (x5 : Int) (x6 : Int) (x7 : Int) : Option (AV × Mem) := pt R_mark_Dice_Curve 1 ⟨[(0, .loc 1000 2 0 0), (2, .loc 2 1 0 0), (3, I x5), (4, I x6), (5, .loc 5 1 0 0), (6, I x7)], [(2, ⟨1, ty_api_Curve, [[.v (.slice none 0 0)]], true⟩), (5, ⟨1, ty_api_Curve, [[.row 900 4 0 (List.length x3)]], true⟩), (900, ⟨4, ty_api_Point, x3, false⟩), (1000, ⟨2, ty_mark_Dice, [dGmarkDice.enc x4], true⟩)]⟩

theorem t_mark_Dice_Curve_1 (x3 : List (List AV)) (x4 : GmarkDice) (x5 : Int) (x6 : Int) (x7 : Int) {y : AV × Mem} (h : (
  brn (decide (0 < x7)) (callD r_mark_Dice_Next (cw f_mark_Dice_Next [.loc 1000 2 0 0, I 3] [(1000, ⟨2, ty_mark_Dice, [dGmarkDice.enc x4], true⟩)]) fun (r8 : Int × GmarkDice) =>
   callD r_mark_Dice_Next (cw f_mark_Dice_Next [.loc 1000 2 0 0, I 4] [(1000, ⟨2, ty_mark_Dice, [dGmarkDice.enc r8.snd], true⟩)]) fun (r9 : Int × GmarkDice) =>
   chk (x3.length = x3.length) <|
   chk ((x3.length + 1) * (32 + 1) ≤ 1099511627776) <|
   k_mark_Dice_Curve_1 (x3 ++ ([dGPoint.enc (⟨⟨w64 (w64 (x5 + 1) + r8.fst), 1⟩, ⟨w64 (w64 (x6 + 1) + r9.fst), 1⟩⟩)])) r9.snd (w64 (w64 (x5 + 1) + r8.fst)) (w64 (w64 (x6 + 1) + r9.fst)) (w64 (x7 - 1)))
  (chk (0 + x3.length ≤ x3.length) <|
   some (.agg [.sl 4 (List.take x3.length x3)], [(1000, ⟨2, ty_mark_Dice, [dGmarkDice.enc x4], true⟩)]))) = some y) : k_mark_Dice_Curve_1 x3 x4 x5 x6 x7 = some y :=
  pt_of zT [] (by kernel_rfl) h

theorem e_mark_Dice_Curve (a0 : GmarkDice) {y : AV × Mem} (h : (
  callD r_mark_Dice_Next (cw f_mark_Dice_Next [.loc 1000 2 0 0, I 9] [(1000, ⟨2, ty_mark_Dice, [dGmarkDice.enc a0], true⟩)]) fun (r0 : Int × GmarkDice) =>
  callD r_mark_Dice_Next (cw f_mark_Dice_Next [.loc 1000 2 0 0, I 9] [(1000, ⟨2, ty_mark_Dice, [dGmarkDice.enc r0.snd], true⟩)]) fun (r1 : Int × GmarkDice) =>
  callD r_mark_Dice_Next (cw f_mark_Dice_Next [.loc 1000 2 0 0, I 4] [(1000, ⟨2, ty_mark_Dice, [dGmarkDice.enc r1.snd], true⟩)]) fun (r2 : Int × GmarkDice) =>
  k_mark_Dice_Curve_1 ([dGPoint.enc (⟨⟨w64 (r0.fst - 4), 1⟩, ⟨w64 (r1.fst - 4), 1⟩⟩)]) r2.snd (w64 (r0.fst - 4)) (w64 (r1.fst - 4)) (w64 (1 + r2.fst))) = some y) : cw f_mark_Dice_Curve [.loc 1000 2 0 0] [(1000, ⟨2, ty_mark_Dice, [dGmarkDice.enc a0], true⟩)] = some y :=
  callw_tree R_mark_Dice_Curve zT [] (by kernel_rfl) (by kernel_rfl) (by kernel_rfl) (by kernel_rfl) (by kernel_rfl) h

theorem e_conversion_Normal (a0 : GCurve) {y : AV × Mem} (h : (
  callD r_conversion_Valid (cw f_conversion_Valid [.agg (dGCurve.enc a0)] []) fun (r0 : Bool) =>
  brn (!r0) (some (.tup [.agg (dGCurve.enc ⟨[]⟩), I 1], []))
  (callD r_conversion_normal (cw f_conversion_normal [.sl 4 (List.map dGPoint.enc a0.Points)] []) fun (r1 : GCurve × Int) =>
   some (.tup [.agg (dGCurve.enc r1.fst), I r1.snd], []))) = some y) : cw f_conversion_Normal [.agg (dGCurve.enc a0)] [] = some y :=
  callw_tree R_conversion_Normal zT [] (by kernel_rfl) (by kernel_rfl) (by kernel_rfl) (by kernel_rfl) (by kernel_rfl) h

theorem e_conversion_Same (a0 : GCurve) (a1 : GCurve) {y : AV × Mem} (h : (
  callD r_conversion_Normal (cw f_conversion_Normal [.agg (dGCurve.enc a0)] []) fun (r0 : GCurve × Int) =>
  brn (r0.snd != 0) (some (B false, []))
  (callD r_conversion_Normal (cw f_conversion_Normal [.agg (dGCurve.enc a1)] []) fun (r1 : GCurve × Int) =>
   brn (r1.snd == 0) (callD r_slices_Equal_api_Point_api_Point (cw f_slices_Equal_api_Point_api_Point [.sl 4 (List.map dGPoint.enc r0.fst.Points), .sl 4 (List.map dGPoint.enc r1.fst.Points)] []) fun (r2 : Bool) =>
    some (B r2, []))
   (some (B false, [])))) = some y) : cw f_conversion_Same [.agg (dGCurve.enc a0), .agg (dGCurve.enc a1)] [] = some y :=
  callw_tree R_conversion_Same zT [] (by kernel_rfl) (by kernel_rfl) (by kernel_rfl) (by kernel_rfl) (by kernel_rfl) h

theorem e_conversion_Valid (a0 : GCurve) {y : AV × Mem} (h : (
  brn (decide (2 ≤ (↑(List.map dGPoint.enc a0.Points).length : Int))) (brn (decide ((↑(List.map dGPoint.enc a0.Points).length : Int) ≤ 410)) (callD r_conversion_ascending (cw f_conversion_ascending [.sl 4 (List.map dGPoint.enc a0.Points)] []) fun (r0 : Bool) =>
    some (B r0, []))
   (some (B false, [])))
  (some (B false, []))) = some y) : cw f_conversion_Valid [.agg (dGCurve.enc a0)] [] = some y :=
  callw_tree R_conversion_Valid zT [] (by kernel_rfl) (by kernel_rfl) (by kernel_rfl) (by kernel_rfl) (by kernel_rfl) h

theorem e_conversion_Eval (a0 : GCurve) (a1 : GRatio) {y : AV × Mem} (h : (
  callD r_conversion_Valid (cw f_conversion_Valid [.agg (dGCurve.enc a0)] []) fun (r0 : Bool) =>
  brn (!r0) (some (.tup [.agg (dGRatio.enc (⟨0, 0⟩)), I 1], []))
  (callD r_ratio_Valid (cw f_ratio_Valid [.agg (dGRatio.enc a1)] []) fun (r1 : Bool) =>
   brn (!r1) (some (.tup [.agg (dGRatio.enc (⟨0, 0⟩)), I 1], []))
   (callD r_conversion_eval (cw f_conversion_eval [.sl 4 (List.map dGPoint.enc a0.Points), .agg (dGRatio.enc a1)] []) fun (r2 : GRatio × Int) =>
    some (.tup [.agg (dGRatio.enc r2.fst), I r2.snd], [])))) = some y) : cw f_conversion_Eval [.agg (dGCurve.enc a0), .agg (dGRatio.enc a1)] [] = some y :=
  callw_tree R_conversion_Eval zT [] (by kernel_rfl) (by kernel_rfl) (by kernel_rfl) (by kernel_rfl) (by kernel_rfl) h

noncomputable def k_mark_Dice_Ratio_1 (r1 : Int × GmarkDice) (x2 : Int) (x3 : Int) (x4 : Int) : Option (AV × Mem) := pt R_mark_Dice_Ratio 1 ⟨[(2, .loc 2 2 0 0), (3, I x2), (4, I x3), (5, I x4)], [(2, ⟨2, ty_api_Ratio, [dGRatio.enc (⟨0, 0⟩)], true⟩), (1000, ⟨2, ty_mark_Dice, [dGmarkDice.enc r1.snd], true⟩)]⟩

theorem t_mark_Dice_Ratio_1 (r1 : Int × GmarkDice) (x2 : Int) (x3 : Int) (x4 : Int) {y : AV × Mem} (h : (
  brn (decide (1 < x4)) (chk ((x4 : Int) ≠ 0) <|
   brn (x2.tmod x4 == 0) (chk ((x4 : Int) ≠ 0) <|
    brn (x3.tmod x4 == 0) (chk ((x4 : Int) ≠ 0) <|
     chk ((x4 : Int) ≠ 0) <|
     k_mark_Dice_Ratio_1 r1 (w64 (x2.tdiv x4)) (w64 (x3.tdiv x4)) (w64 (x4 - 1)))
    (k_mark_Dice_Ratio_1 r1 x2 x3 (w64 (x4 - 1))))
   (k_mark_Dice_Ratio_1 r1 x2 x3 (w64 (x4 - 1))))
  (brn (x2 == 0) (some (.agg (dGRatio.enc (⟨x2, 1⟩)), [(1000, ⟨2, ty_mark_Dice, [dGmarkDice.enc r1.snd], true⟩)]))
   (some (.agg (dGRatio.enc (⟨x2, x3⟩)), [(1000, ⟨2, ty_mark_Dice, [dGmarkDice.enc r1.snd], true⟩)])))) = some y) : k_mark_Dice_Ratio_1 r1 x2 x3 x4 = some y :=
  pt_of zT [] (by kernel_rfl) h

theorem e_mark_Dice_Ratio (a0 : GmarkDice) {y : AV × Mem} (h : (
  callD r_mark_Dice_Next (cw f_mark_Dice_Next [.loc 1000 2 0 0, I 21] [(1000, ⟨2, ty_mark_Dice, [dGmarkDice.enc a0], true⟩)]) fun (r0 : Int × GmarkDice) =>
  callD r_mark_Dice_Next (cw f_mark_Dice_Next [.loc 1000 2 0 0, I 5] [(1000, ⟨2, ty_mark_Dice, [dGmarkDice.enc r0.snd], true⟩)]) fun (r1 : Int × GmarkDice) =>
  k_mark_Dice_Ratio_1 r1 (w64 (r0.fst - 10)) (w64 (1 + r1.fst)) 5) = some y) : cw f_mark_Dice_Ratio [.loc 1000 2 0 0] [(1000, ⟨2, ty_mark_Dice, [dGmarkDice.enc a0], true⟩)] = some y :=
  callw_tree R_mark_Dice_Ratio zT [] (by kernel_rfl) (by kernel_rfl) (by kernel_rfl) (by kernel_rfl) (by kernel_rfl) h

theorem e_ref01_Less (a0 : GRatio) (a1 : GRatio) {y : AV × Mem} (h : (
  callD r_ref01_Compare (cw f_ref01_Compare [.agg (dGRatio.enc a0), .agg (dGRatio.enc a1)] []) fun (r0 : Int) =>
  some (B (decide (r0 < 0)), [])) = some y) : cw f_ref01_Less [.agg (dGRatio.enc a0), .agg (dGRatio.enc a1)] [] = some y :=
  callw_tree R_ref01_Less zT [] (by kernel_rfl) (by kernel_rfl) (by kernel_rfl) (by kernel_rfl) (by kernel_rfl) h

theorem e_conversion_Convert (a0 : GCurve) (a1 : Int) (a2 : Int) {y : AV × Mem} (h : (
  brn (decide (a1 < 0)) (some (.tup [I 0, I 2], []))
  (brn (decide (200 < a1)) (some (.tup [I 0, I 2], []))
   (brn (decide (a2 < 0)) (some (.tup [I 0, I 2], []))
    (brn (decide (200 < a2)) (some (.tup [I 0, I 2], []))
     (callD r_conversion_whole (cw f_conversion_whole [I a1] []) fun (r0 : GRatio) =>
      callD r_conversion_Eval (cw f_conversion_Eval [.agg (dGCurve.enc a0), .agg (dGRatio.enc r0)] []) fun (r1 : GRatio × Int) =>
      brn (r1.snd != 0) (some (.tup [I 0, I r1.snd], []))
      (callD r_ratio_Round (cw f_ratio_Round [.agg (dGRatio.enc r1.fst)] []) fun (r2 : Int) =>
       some (.tup [I (if a2 < if 0 > r2 then 0 else r2 then a2 else if 0 > r2 then 0 else r2), I 0], []))))))) = some y) : cw f_conversion_Convert [.agg (dGCurve.enc a0), I a1, I a2] [] = some y :=
  callw_tree R_conversion_Convert zT [] (by kernel_rfl) (by kernel_rfl) (by kernel_rfl) (by kernel_rfl) (by kernel_rfl) h

theorem e_law33_whole (a0 : Int) {y : AV × Mem} (h : (
  some (.agg (dGRatio.enc (⟨a0, 1⟩)), [])) = some y) : cw f_law33_whole [I a0] [] = some y :=
  callw_tree R_law33_whole zT [] (by kernel_rfl) (by kernel_rfl) (by kernel_rfl) (by kernel_rfl) (by kernel_rfl) h

noncomputable def k_conversion_Compose_1 (a0 : GCurve) (a1 : GCurve) (x2 : List (List AV)) (x3 : Int) : Option (AV × Mem) := pt R_conversion_Compose 1 ⟨[(2, .loc 2 1 0 0), (3, .loc 3 1 0 0), (4, .loc 4 1 0 0), (6, .row 6 2 0 (List.length x2)), (30, .sl 4 (List.map dGPoint.enc a0.Points)), (31, I ((↑(List.map dGPoint.enc a0.Points).length : Int))), (32, I x3)], [(2, ⟨1, ty_api_Curve, [dGCurve.enc a0], true⟩), (3, ⟨1, ty_api_Curve, [dGCurve.enc a1], true⟩), (4, ⟨1, ty_api_Curve, [[.v (.slice none 0 0)]], true⟩), (6, ⟨2, ty_api_Ratio, x2, false⟩)]⟩

noncomputable def k_conversion_Compose_2 (a0 : GCurve) (a1 : GCurve) (r5 : (List GPoint)) (x6 : List (List AV)) (x7 : Int) : Option (AV × Mem) := pt R_conversion_Compose 2 ⟨[(2, .loc 2 1 0 0), (3, .loc 3 1 0 0), (4, .loc 4 1 0 0), (6, .row 6 2 0 (List.length x6)), (9, .row 44 4 0 (List.length (List.map dGPoint.enc r5))), (46, .sl 4 (List.map dGPoint.enc a1.Points)), (47, I ((↑(List.map dGPoint.enc a1.Points).length : Int))), (48, I x7)], [(2, ⟨1, ty_api_Curve, [dGCurve.enc a0], true⟩), (3, ⟨1, ty_api_Curve, [dGCurve.enc a1], true⟩), (4, ⟨1, ty_api_Curve, [[.v (.slice none 0 0)]], true⟩), (6, ⟨2, ty_api_Ratio, x6, false⟩), (44, ⟨4, ty_api_Point, List.map dGPoint.enc r5, false⟩)]⟩

noncomputable def k_conversion_Compose_3 (a0 : GCurve) (a1 : GCurve) (r11 : Nat × (List GRatio)) (x12 : List (List AV)) (x13 : Int) : Option (AV × Mem) := pt R_conversion_Compose 3 ⟨[(2, .loc 2 1 0 0), (3, .loc 3 1 0 0), (4, .loc 4 1 0 0), (14, .row 74 4 0 ((List.replicate (↑r11.fst : Int).toNat (AV.v (Go.Value.int IntKind.i64 0) :: AV.v (Go.Value.int IntKind.i64 0) :: AV.v (Go.Value.int IntKind.i64 0) :: AV.v (Go.Value.int IntKind.i64 0) :: List.map AV.v [])).length)), (75, .row 6 2 0 r11.fst), (76, I (↑r11.fst : Int)), (77, I x13)], [(2, ⟨1, ty_api_Curve, [dGCurve.enc a0], true⟩), (3, ⟨1, ty_api_Curve, [dGCurve.enc a1], true⟩), (4, ⟨1, ty_api_Curve, [[.v (.slice none 0 0)]], true⟩), (6, ⟨2, ty_api_Ratio, List.map dGRatio.enc r11.snd, false⟩), (74, ⟨4, ty_api_Point, x12, false⟩)]⟩

theorem t_conversion_Compose_1 (a0 : GCurve) (a1 : GCurve) (x2 : List (List AV)) (x3 : Int) {y : AV × Mem} (h : (
  brn (decide (x3 < (↑(List.map dGPoint.enc a0.Points).length : Int))) (chk ((0 : Int) ≤ x3) <|
   elemD dGPoint (List.map dGPoint.enc a0.Points) x3.toNat fun (c4 : GPoint) =>
   chk (x2.length = x2.length) <|
   chk ((x2.length + 1) * (16 + 1) ≤ 1099511627776) <|
   chk ((x2 ++ [[AV.v (Go.Value.int IntKind.i64 c4.X.Num), AV.v (Go.Value.int IntKind.i64 c4.X.Den)]]).length = (x2 ++ [[AV.v (Go.Value.int IntKind.i64 c4.X.Num), AV.v (Go.Value.int IntKind.i64 c4.X.Den)]]).length) <|
   k_conversion_Compose_1 a0 a1 (x2 ++ ([dGRatio.enc c4.X])) (w64 (x3 + 1)))
  (callD r_conversion_exchanged (cw f_conversion_exchanged [.sl 4 (List.map dGPoint.enc a0.Points)] []) fun (r5 : (List GPoint)) =>
   k_conversion_Compose_2 a0 a1 r5 x2 0)) = some y) : k_conversion_Compose_1 a0 a1 x2 x3 = some y :=
  pt_of zT [] (by kernel_rfl) h

theorem t_conversion_Compose_2 (a0 : GCurve) (a1 : GCurve) (r5 : (List GPoint)) (x6 : List (List AV)) (x7 : Int) {y : AV × Mem} (h : (
  brn (decide (x7 < (↑(List.map dGPoint.enc a1.Points).length : Int))) (chk ((0 : Int) ≤ x7) <|
   elemD dGPoint (List.map dGPoint.enc a1.Points) x7.toNat fun (c8 : GPoint) =>
   chk (0 + (List.map dGPoint.enc r5).length ≤ (List.map dGPoint.enc r5).length) <|
   callD r_conversion_eval (cw f_conversion_eval [.sl 4 (List.take ((List.map dGPoint.enc r5).length) (List.map dGPoint.enc r5)), .agg (dGRatio.enc c8.X)] []) fun (r9 : GRatio × Int) =>
   brn (r9.snd != 0) (some (.tup [.agg (dGCurve.enc ⟨[]⟩), I r9.snd], []))
   (chk (x6.length = x6.length) <|
    chk ((x6.length + 1) * (16 + 1) ≤ 1099511627776) <|
    chk ((x6 ++ [[AV.v (Go.Value.int IntKind.i64 r9.fst.Num), AV.v (Go.Value.int IntKind.i64 r9.fst.Den)]]).length = (x6 ++ [[AV.v (Go.Value.int IntKind.i64 r9.fst.Num), AV.v (Go.Value.int IntKind.i64 r9.fst.Den)]]).length) <|
    k_conversion_Compose_2 a0 a1 r5 (x6 ++ ([dGRatio.enc r9.fst])) (w64 (x7 + 1))))
  (callD r_slices_SortFunc_api_Ratio_api_Ratio (cw f_slices_SortFunc_api_Ratio_api_Ratio [.row 1000 2 0 (List.length x6), .fn f_ratio_Compare []] [(1000, ⟨2, ty_api_Ratio, x6, false⟩)]) fun (r10 : (List GRatio)) =>
   callD r_slices_Compact_api_Ratio_api_Ratio (cw f_slices_Compact_api_Ratio_api_Ratio [.row 1000 2 0 x6.length] [(1000, ⟨2, ty_api_Ratio, List.map dGRatio.enc r10, false⟩)]) fun (r11 : Nat × (List GRatio)) =>
   chk (((↑r11.fst : Int) : Int) = (↑r11.fst : Int)) <|
   chk ((0 : Int) ≤ (↑r11.fst : Int)) <|
   chk ((↑r11.fst : Int).toNat * (32 + 1) ≤ 1099511627776) <|
   k_conversion_Compose_3 a0 a1 r11 (List.replicate ((↑r11.fst : Int).toNat) (dGPoint.enc (⟨⟨0, 0⟩, ⟨0, 0⟩⟩))) 0)) = some y) : k_conversion_Compose_2 a0 a1 r5 x6 x7 = some y :=
  pt_of zT [] (by kernel_rfl) h

theorem t_conversion_Compose_3 (a0 : GCurve) (a1 : GCurve) (r11 : Nat × (List GRatio)) (x12 : List (List AV)) (x13 : Int) {y : AV × Mem} (h : (
  brn (decide (x13 < (↑r11.fst : Int))) (chk ((0 : Int) ≤ x13) <|
   chk ((x13 : Int) < (↑r11.fst : Int)) <|
   elemD dGRatio (List.map dGRatio.enc r11.snd) (0 + x13.toNat) fun (c14 : GRatio) =>
   callD r_conversion_eval (cw f_conversion_eval [.sl 4 (List.map dGPoint.enc a0.Points), .agg (dGRatio.enc c14)] []) fun (r15 : GRatio × Int) =>
   brn (r15.snd != 0) (some (.tup [.agg (dGCurve.enc ⟨[]⟩), I r15.snd], []))
   (callD r_conversion_eval (cw f_conversion_eval [.sl 4 (List.map dGPoint.enc a1.Points), .agg (dGRatio.enc r15.fst)] []) fun (r16 : GRatio × Int) =>
    brn (r16.snd != 0) (some (.tup [.agg (dGCurve.enc ⟨[]⟩), I r16.snd], []))
    (chk ((0 : Int) ≤ x13) <|
     chk ((x13 : Int) < ((↑(List.replicate (↑r11.fst : Int).toNat (AV.v (Go.Value.int IntKind.i64 0) :: AV.v (Go.Value.int IntKind.i64 0) :: AV.v (Go.Value.int IntKind.i64 0) :: AV.v (Go.Value.int IntKind.i64 0) :: List.map AV.v [])).length : Int))) <|
     elemD dGPoint x12 (0 + x13.toNat) fun (c17 : GPoint) =>
     k_conversion_Compose_3 a0 a1 r11 (List.set x12 (0 + x13.toNat) (dGPoint.enc (⟨⟨c14.Num, c14.Den⟩, ⟨r16.fst.Num, r16.fst.Den⟩⟩))) (w64 (x13 + 1)))))
  (chk (0 + (List.replicate (↑r11.fst : Int).toNat (AV.v (Go.Value.int IntKind.i64 0) :: AV.v (Go.Value.int IntKind.i64 0) :: AV.v (Go.Value.int IntKind.i64 0) :: AV.v (Go.Value.int IntKind.i64 0) :: List.map AV.v [])).length ≤ x12.length) <|
   callD r_conversion_normal (cw f_conversion_normal [.sl 4 (List.take ((List.replicate (↑r11.fst : Int).toNat (AV.v (Go.Value.int IntKind.i64 0) :: AV.v (Go.Value.int IntKind.i64 0) :: AV.v (Go.Value.int IntKind.i64 0) :: AV.v (Go.Value.int IntKind.i64 0) :: List.map AV.v [])).length) x12)] []) fun (r18 : GCurve × Int) =>
   chk (0 + (List.replicate (↑r11.fst : Int).toNat (AV.v (Go.Value.int IntKind.i64 0) :: AV.v (Go.Value.int IntKind.i64 0) :: AV.v (Go.Value.int IntKind.i64 0) :: AV.v (Go.Value.int IntKind.i64 0) :: List.map AV.v [])).length ≤ x12.length) <|
   chk (0 + (List.replicate (↑r11.fst : Int).toNat (AV.v (Go.Value.int IntKind.i64 0) :: AV.v (Go.Value.int IntKind.i64 0) :: AV.v (Go.Value.int IntKind.i64 0) :: AV.v (Go.Value.int IntKind.i64 0) :: List.map AV.v [])).length ≤ x12.length) <|
   some (.tup [.agg (dGCurve.enc r18.fst), I r18.snd], []))) = some y) : k_conversion_Compose_3 a0 a1 r11 x12 x13 = some y :=
  pt_of zT [] (by kernel_rfl) h

theorem e_conversion_Compose (a0 : GCurve) (a1 : GCurve) {y : AV × Mem} (h : (
  callD r_conversion_Valid (cw f_conversion_Valid [.agg (dGCurve.enc a0)] []) fun (r0 : Bool) =>
  brn (!r0) (some (.tup [.agg (dGCurve.enc ⟨[]⟩), I 1], []))
  (callD r_conversion_Valid (cw f_conversion_Valid [.agg (dGCurve.enc a1)] []) fun (r1 : Bool) =>
   brn (!r1) (some (.tup [.agg (dGCurve.enc ⟨[]⟩), I 1], []))
   (k_conversion_Compose_1 a0 a1 [] 0))) = some y) : cw f_conversion_Compose [.agg (dGCurve.enc a0), .agg (dGCurve.enc a1)] [] = some y :=
  callw_tree R_conversion_Compose zT [] (by kernel_rfl) (by kernel_rfl) (by kernel_rfl) (by kernel_rfl) (by kernel_rfl) h

theorem e_conversion_Line (a0 : GRatio) (a1 : GRatio) {y : AV × Mem} (h : (
  callD r_ratio_Valid (cw f_ratio_Valid [.agg (dGRatio.enc a0)] []) fun (r0 : Bool) =>
  brn (!r0) (some (.tup [.agg (dGCurve.enc ⟨[]⟩), I 1], []))
  (callD r_ratio_Valid (cw f_ratio_Valid [.agg (dGRatio.enc a1)] []) fun (r1 : Bool) =>
   brn (!r1) (some (.tup [.agg (dGCurve.enc ⟨[]⟩), I 1], []))
   (brn (decide (a0.Num ≤ 0)) (some (.tup [.agg (dGCurve.enc ⟨[]⟩), I 2], []))
    (callD r_ratio_Add (cw f_ratio_Add [.agg (dGRatio.enc a0), .agg (dGRatio.enc a1)] []) fun (r2 : GRatio × Int) =>
     brn (r2.snd != 0) (some (.tup [.agg (dGCurve.enc ⟨[]⟩), I r2.snd], []))
     (callD r_conversion_whole (cw f_conversion_whole [I 0] []) fun (r3 : GRatio) =>
      callD r_conversion_whole (cw f_conversion_whole [I 1] []) fun (r4 : GRatio) =>
      some (.tup [.agg (dGCurve.enc (⟨[⟨⟨r3.Num, r3.Den⟩, ⟨a1.Num, a1.Den⟩⟩, ⟨⟨r4.Num, r4.Den⟩, ⟨r2.fst.Num, r2.fst.Den⟩⟩]⟩)), I 0], [])))))) = some y) : cw f_conversion_Line [.agg (dGRatio.enc a0), .agg (dGRatio.enc a1)] [] = some y :=
  callw_tree R_conversion_Line zT [] (by kernel_rfl) (by kernel_rfl) (by kernel_rfl) (by kernel_rfl) (by kernel_rfl) h

theorem e_conversion_Inverse (a0 : GCurve) {y : AV × Mem} (h : (
  callD r_conversion_Valid (cw f_conversion_Valid [.agg (dGCurve.enc a0)] []) fun (r0 : Bool) =>
  brn (!r0) (some (.tup [.agg (dGCurve.enc ⟨[]⟩), I 1], []))
  (callD r_conversion_exchanged (cw f_conversion_exchanged [.sl 4 (List.map dGPoint.enc a0.Points)] []) fun (r1 : (List GPoint)) =>
   chk (0 + (List.map dGPoint.enc r1).length ≤ (List.map dGPoint.enc r1).length) <|
   callD r_conversion_normal (cw f_conversion_normal [.sl 4 (List.take ((List.map dGPoint.enc r1).length) (List.map dGPoint.enc r1))] []) fun (r2 : GCurve × Int) =>
   chk (0 + (List.map dGPoint.enc r1).length ≤ (List.map dGPoint.enc r1).length) <|
   some (.tup [.agg (dGCurve.enc r2.fst), I r2.snd], []))) = some y) : cw f_conversion_Inverse [.agg (dGCurve.enc a0)] [] = some y :=
  callw_tree R_conversion_Inverse zT [] (by kernel_rfl) (by kernel_rfl) (by kernel_rfl) (by kernel_rfl) (by kernel_rfl) h

theorem e_mark_Dice_Next (a0 : GmarkDice) (a1 : Int) {y : AV × Mem} (h : (
  brn (decide ((↑(List.map dI_i64.enc a0.L).length : Int) ≤ a0.At)) (some (I 0, [(1000, ⟨2, ty_mark_Dice, [dGmarkDice.enc a0], true⟩)]))
  (brn (decide (a1 < 1)) (some (I 0, [(1000, ⟨2, ty_mark_Dice, [dGmarkDice.enc a0], true⟩)]))
   (chk ((0 : Int) ≤ a0.At) <|
    elemD dI_i64 (List.map dI_i64.enc a0.L) a0.At.toNat fun (c0 : Int) =>
    chk ((a1 : Int) ≠ 0) <|
    brn (decide (Int.tmod c0 a1 < 0)) (some (I (w64 (Int.tmod c0 a1 + a1)), [(1000, ⟨2, ty_mark_Dice, [dGmarkDice.enc (⟨a0.L, w64 (a0.At + 1)⟩)], true⟩)]))
    (some (I (Int.tmod c0 a1), [(1000, ⟨2, ty_mark_Dice, [dGmarkDice.enc (⟨a0.L, w64 (a0.At + 1)⟩)], true⟩)]))))) = some y) : cw f_mark_Dice_Next [.loc 1000 2 0 0, I a1] [(1000, ⟨2, ty_mark_Dice, [dGmarkDice.enc a0], true⟩)] = some y :=
  callw_tree R_mark_Dice_Next zT [] (by kernel_rfl) (by kernel_rfl) (by kernel_rfl) (by kernel_rfl) (by kernel_rfl) h

end Go.Proofs.Ytiienbfdcgipnaa
