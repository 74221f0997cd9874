/- What the functions compute, between two cut points: printed by a program, checked by the kernel. -/
import Derived.Test.YtdhibifcofaioaaGreatAnn
namespace Go.Proofs.YtdhibifcofaioaaGreat
open Go.Ab
set_option maxRecDepth 100000
set_option linter.unusedVariables false

noncomputable def k_law30_ArbitrationExact_1 (a0 : List Int) (a1 : List GGiven) (a2 : GMarkRule) (a3 : Int) (x3 : Int) : Option (AV × Mem) := pt R_law30_ArbitrationExact 1 ⟨[(0, AV.sl 1 (List.map nI_i64 a0)), (1, AV.sl 8 (List.map nGGiven a1)), (3, I a3), (6, AV.loc 6 2 0 0), (44, AV.sl 8 (List.map nGGiven a1)), (45, I ((↑(List.map nGGiven a1).length : Int))), (46, I x3)], [(6, ⟨2, ty_api_MarkRule, [nGMarkRule a2], true⟩)]⟩

noncomputable def k_law30_ArbitrationExact_2 (a1 : List GGiven) (a2 : GMarkRule) (a3 : Int) (r7 : GSetup × GmarkDice) (r10 : GMarking × Int) (r11 : GMarkRule × GmarkDice) (r12 : Int × GmarkDice) (x13 : GmarkDice) (x14 : Int) : Option (AV × Mem) := pt R_law30_ArbitrationExact 2 ⟨[(1, AV.sl 8 (List.map nGGiven a1)), (3, I a3), (11, AV.loc 56 2 0 0), (12, AV.loc 12 9 0 0), (13, AV.loc 13 2 0 0), (78, AV.agg [B r11.fst.Double, I r11.fst.Tolerance, B a2.Double, I a2.Tolerance, B false, I r12.fst]), (79, I x14)], [(12, ⟨9, ty_api_Setup, [nGSetup r7.fst], true⟩), (13, ⟨2, ty_api_Marking, [nGMarking r10.fst], true⟩), (56, ⟨2, ty_mark_Dice, [nGmarkDice x13], true⟩)]⟩

noncomputable def k_law30_ArbitrationExact_3 (a1 : List GGiven) (a2 : GMarkRule) (a3 : Int) (r7 : GSetup × GmarkDice) (r10 : GMarking × Int) (r11 : GMarkRule × GmarkDice) (r12 : Int × GmarkDice) (x14 : Int) (c15 : GMarkRule) (r18 : ((List GGiven)) × GmarkDice) (r23 : (List (Int × Int)) × Int) (r24 : (List (Int × Int)) × Int) (x25 : Int) : Option (AV × Mem) := pt R_law30_ArbitrationExact 3 ⟨[(1, AV.sl 8 (List.map nGGiven a1)), (3, I a3), (11, AV.loc 56 2 0 0), (12, AV.loc 12 9 0 0), (13, AV.loc 13 2 0 0), (16, AV.loc 16 2 0 0), (18, AV.sl 2 (List.map nA2_I_i64 r23.fst)), (20, AV.sl 2 (List.map nA2_I_i64 r24.fst)), (78, AV.agg [B r11.fst.Double, I r11.fst.Tolerance, B a2.Double, I a2.Tolerance, B false, I r12.fst]), (79, I x14), (130, I ((↑(List.map nA2_I_i64 r23.fst).length : Int))), (131, I x25)], [(12, ⟨9, ty_api_Setup, [nGSetup r7.fst], true⟩), (13, ⟨2, ty_api_Marking, [nGMarking r10.fst], true⟩), (16, ⟨2, ty_api_MarkRule, [nGMarkRule c15], true⟩), (56, ⟨2, ty_mark_Dice, [nGmarkDice r18.snd], true⟩)]⟩

noncomputable def k_law30_ArbitrationExact_4 (a1 : List GGiven) (a2 : GMarkRule) (a3 : Int) (r7 : GSetup × GmarkDice) (r10 : GMarking × Int) (r11 : GMarkRule × GmarkDice) (r12 : Int × GmarkDice) (x14 : Int) (c15 : GMarkRule) (r29 : Int × GmarkDice) (r30 : Int × GmarkDice) (r31 : Int × GmarkDice) (x32 : Int) : Option (AV × Mem) := pt R_law30_ArbitrationExact 4 ⟨[(1, AV.sl 8 (List.map nGGiven a1)), (3, I a3), (11, AV.loc 56 2 0 0), (12, AV.loc 12 9 0 0), (13, AV.loc 13 2 0 0), (16, AV.loc 16 2 0 0), (78, AV.agg [B r11.fst.Double, I r11.fst.Tolerance, B a2.Double, I a2.Tolerance, B false, I r12.fst]), (79, I x14), (154, AV.agg [I a3, I (w64 (1 + r29.fst)), I (w64 (1 + r30.fst)), I (w64 (10001 + r31.fst))]), (155, I x32)], [(12, ⟨9, ty_api_Setup, [nGSetup r7.fst], true⟩), (13, ⟨2, ty_api_Marking, [nGMarking r10.fst], true⟩), (16, ⟨2, ty_api_MarkRule, [nGMarkRule c15], true⟩), (56, ⟨2, ty_mark_Dice, [nGmarkDice r31.snd], true⟩)]⟩

theorem t_law30_ArbitrationExact_1 (a0 : List Int) (a1 : List GGiven) (a2 : GMarkRule) (a3 : Int) (x3 : Int) {y : AV × Mem} (h : (
  brn (decide (x3 < (↑(List.map nGGiven a1).length : Int))) (chk ((0 : Int) ≤ x3) <|
   elemD dGGiven (List.map nGGiven a1) x3.toNat fun (c4 : GGiven) =>
   brn (decide (1099511627776 < c4.Value)) (callD r_law30_sane (cw f_law30_sane [] []) fun (r5 : Bool) =>
    some (B r5, []))
   (k_law30_ArbitrationExact_1 a0 a1 a2 a3 (w64 (x3 + 1))))
  (callD r_mark_Roll (cw f_mark_Roll [AV.sl 1 (List.map nI_i64 a0)] []) fun (r6 : GmarkDice) =>
   callD r_mark_Dice_Setup (cw f_mark_Dice_Setup [AV.loc 1000 2 0 0] [(1000, ⟨2, ty_mark_Dice, [nGmarkDice r6], true⟩)]) fun (r7 : GSetup × GmarkDice) =>
   callD r_mark_Dice_Events (cw f_mark_Dice_Events [AV.loc 1000 2 0 0, AV.agg (nGSetup r7.fst), I 20] [(1000, ⟨2, ty_mark_Dice, [nGmarkDice r7.snd], true⟩)]) fun (r8 : ((List GMarkEvent)) × GmarkDice) =>
   callD r_mark_Dice_Full (cw f_mark_Dice_Full [AV.loc 1000 2 0 0, AV.agg (nGSetup r7.fst), I 50] [(1000, ⟨2, ty_mark_Dice, [nGmarkDice r8.snd], true⟩)]) fun (r9 : ((List GMarkEvent)) × GmarkDice) =>
   chk (0 + (List.map nGMarkEvent r9.fst).length ≤ (List.map nGMarkEvent r9.fst).length) <|
   chk ((List.map nGMarkEvent r8.fst).length = (List.map nGMarkEvent r8.fst).length) <|
   chk (((List.map nGMarkEvent r8.fst).length + (List.take (List.map nGMarkEvent r9.fst).length (List.map nGMarkEvent r9.fst)).length) * (88 + 1) ≤ 1099511627776) <|
   chk (0 + (List.map nGMarkEvent r8.fst ++ List.take (List.map nGMarkEvent r9.fst).length (List.map nGMarkEvent r9.fst)).length ≤ (List.map nGMarkEvent r8.fst ++ List.take (List.map nGMarkEvent r9.fst).length (List.map nGMarkEvent r9.fst)).length) <|
   callD r_ref29_Fold (cw f_ref29_Fold [AV.agg (nGSetup r7.fst), AV.sl 9 (List.take ((List.map nGMarkEvent r8.fst ++ List.take (List.map nGMarkEvent r9.fst).length (List.map nGMarkEvent r9.fst)).length) ((List.map nGMarkEvent r8.fst) ++ (List.take ((List.map nGMarkEvent r9.fst).length) (List.map nGMarkEvent r9.fst))))] []) fun (r10 : GMarking × Int) =>
   callD r_mark_Dice_Rule (cw f_mark_Dice_Rule [AV.loc 1000 2 0 0] [(1000, ⟨2, ty_mark_Dice, [nGmarkDice r9.snd], true⟩)]) fun (r11 : GMarkRule × GmarkDice) =>
   callD r_mark_Dice_Pick (cw f_mark_Dice_Pick [AV.loc 1000 2 0 0, AV.sl 1 (List.map nI_i64 ([-1, 0, 40, 41]))] [(1000, ⟨2, ty_mark_Dice, [nGmarkDice r11.snd], true⟩)]) fun (r12 : Int × GmarkDice) =>
   k_law30_ArbitrationExact_2 a1 a2 a3 r7 r10 r11 r12 r12.snd 0)) = some y) : k_law30_ArbitrationExact_1 a0 a1 a2 a3 x3 = some y :=
  pt_of zT [] (by kernel_rfl) h

theorem t_law30_ArbitrationExact_2 (a1 : List GGiven) (a2 : GMarkRule) (a3 : Int) (r7 : GSetup × GmarkDice) (r10 : GMarking × Int) (r11 : GMarkRule × GmarkDice) (r12 : Int × GmarkDice) (x13 : GmarkDice) (x14 : Int) {y : AV × Mem} (h : (
  brn (decide (x14 < 3)) (chk ((0 : Int) ≤ x14) <|
   chk ((x14 : Int) < (↑3 : Int)) <|
   elemD dGMarkRule ([nGMarkRule r11.fst, nGMarkRule a2, nGMarkRule (⟨false, r12.fst⟩)]) x14.toNat fun (c15 : GMarkRule) =>
   callD r_arbitration_Check (cw f_arbitration_Check [AV.agg (nGMarkRule c15)] []) fun (r16 : Int) =>
   callD r_ref30_Check (cw f_ref30_Check [AV.agg (nGMarkRule c15)] []) fun (r17 : Int) =>
   brn (r16 != r17) (some (B false, []))
   (callD r_law30_few (cw f_law30_few [AV.loc 1000 2 0 0] [(1000, ⟨2, ty_mark_Dice, [nGmarkDice x13], true⟩)]) fun (r18 : ((List GGiven)) × GmarkDice) =>
    chk (0 + (List.map nGGiven r18.fst).length ≤ (List.map nGGiven r18.fst).length) <|
    callD r_arbitration_Decide (cw f_arbitration_Decide [AV.agg (nGMarkRule c15), AV.sl 8 (List.take ((List.map nGGiven r18.fst).length) (List.map nGGiven r18.fst))] []) fun (r19 : GVerdict) =>
    chk (0 + (List.map nGGiven r18.fst).length ≤ (List.map nGGiven r18.fst).length) <|
    callD r_ref30_Decide (cw f_ref30_Decide [AV.agg (nGMarkRule c15), AV.sl 8 (List.take ((List.map nGGiven r18.fst).length) (List.map nGGiven r18.fst))] []) fun (r20 : GVerdict) =>
    brn (!(r19.State == r20.State && (r19.Value == r20.Value && true))) (some (B false, []))
    (callD r_arbitration_Decide (cw f_arbitration_Decide [AV.agg (nGMarkRule c15), AV.sl 8 (List.map nGGiven a1)] []) fun (r21 : GVerdict) =>
     callD r_ref30_Decide (cw f_ref30_Decide [AV.agg (nGMarkRule c15), AV.sl 8 (List.map nGGiven a1)] []) fun (r22 : GVerdict) =>
     brn (!(r21.State == r22.State && (r21.Value == r22.Value && true))) (some (B false, []))
     (callD r_arbitration_Open (cw f_arbitration_Open [AV.agg (nGMarkRule c15), AV.agg (nGSetup r7.fst), AV.agg (nGMarking r10.fst)] []) fun (r23 : (List (Int × Int)) × Int) =>
      callD r_ref30_Open (cw f_ref30_Open [AV.agg (nGMarkRule c15), AV.agg (nGSetup r7.fst), AV.agg (nGMarking r10.fst)] []) fun (r24 : (List (Int × Int)) × Int) =>
      brn ((↑(List.map nA2_I_i64 r23.fst).length : Int) != (↑(List.map nA2_I_i64 r24.fst).length : Int)) (some (B false, []))
      (brn (r23.snd != r24.snd) (some (B false, []))
       (k_law30_ArbitrationExact_3 a1 a2 a3 r7 r10 r11 r12 x14 c15 r18 r23 r24 0))))))
  (callD r_law30_sane (cw f_law30_sane [] []) fun (r26 : Bool) =>
   some (B r26, []))) = some y) : k_law30_ArbitrationExact_2 a1 a2 a3 r7 r10 r11 r12 x13 x14 = some y :=
  pt_of zT [] (by kernel_rfl) h

theorem t_law30_ArbitrationExact_3 (a1 : List GGiven) (a2 : GMarkRule) (a3 : Int) (r7 : GSetup × GmarkDice) (r10 : GMarking × Int) (r11 : GMarkRule × GmarkDice) (r12 : Int × GmarkDice) (x14 : Int) (c15 : GMarkRule) (r18 : ((List GGiven)) × GmarkDice) (r23 : (List (Int × Int)) × Int) (r24 : (List (Int × Int)) × Int) (x25 : Int) {y : AV × Mem} (h : (
  brn (decide (x25 < (↑(List.map nA2_I_i64 r23.fst).length : Int))) (chk ((0 : Int) ≤ x25) <|
   elemD dA2_I_i64 (List.map nA2_I_i64 r23.fst) x25.toNat fun (c27 : Int × Int) =>
   chk ((0 : Int) ≤ x25) <|
   elemD dA2_I_i64 (List.map nA2_I_i64 r24.fst) x25.toNat fun (c28 : Int × Int) =>
   brn (!(c27.fst == c28.fst && (c27.snd == c28.snd && true))) (some (B false, []))
   (k_law30_ArbitrationExact_3 a1 a2 a3 r7 r10 r11 r12 x14 c15 r18 r23 r24 (w64 (x25 + 1))))
  (callD r_mark_Dice_Next (cw f_mark_Dice_Next [AV.loc 1000 2 0 0, I 4] [(1000, ⟨2, ty_mark_Dice, [nGmarkDice r18.snd], true⟩)]) fun (r29 : Int × GmarkDice) =>
   callD r_mark_Dice_Next (cw f_mark_Dice_Next [AV.loc 1000 2 0 0, I 4] [(1000, ⟨2, ty_mark_Dice, [nGmarkDice r29.snd], true⟩)]) fun (r30 : Int × GmarkDice) =>
   callD r_mark_Dice_Next (cw f_mark_Dice_Next [AV.loc 1000 2 0 0, I 4] [(1000, ⟨2, ty_mark_Dice, [nGmarkDice r30.snd], true⟩)]) fun (r31 : Int × GmarkDice) =>
   k_law30_ArbitrationExact_4 a1 a2 a3 r7 r10 r11 r12 x14 c15 r29 r30 r31 0)) = some y) : k_law30_ArbitrationExact_3 a1 a2 a3 r7 r10 r11 r12 x14 c15 r18 r23 r24 x25 = some y :=
  pt_of zT [] (by kernel_rfl) h

theorem t_law30_ArbitrationExact_4 (a1 : List GGiven) (a2 : GMarkRule) (a3 : Int) (r7 : GSetup × GmarkDice) (r10 : GMarking × Int) (r11 : GMarkRule × GmarkDice) (r12 : Int × GmarkDice) (x14 : Int) (c15 : GMarkRule) (r29 : Int × GmarkDice) (r30 : Int × GmarkDice) (r31 : Int × GmarkDice) (x32 : Int) {y : AV × Mem} (h : (
  brn (decide (x32 < 4)) (chk ((0 : Int) ≤ x32) <|
   chk ((x32 : Int) < (↑4 : Int)) <|
   elemD dI_i64 ([nI_i64 a3, nI_i64 (w64 (1 + r29.fst)), nI_i64 (w64 (1 + r30.fst)), nI_i64 (w64 (10001 + r31.fst))]) x32.toNat fun (c33 : Int) =>
   callD r_arbitration_Verdicts (cw f_arbitration_Verdicts [AV.agg (nGMarkRule c15), AV.agg (nGSetup r7.fst), AV.agg (nGMarking r10.fst), I c33] []) fun (r34 : (List GVerdict) × Int) =>
   callD r_ref30_Verdicts (cw f_ref30_Verdicts [AV.agg (nGMarkRule c15), AV.agg (nGSetup r7.fst), AV.agg (nGMarking r10.fst), I c33] []) fun (r35 : (List GVerdict) × Int) =>
   callD r_arbitration_Total (cw f_arbitration_Total [AV.agg (nGMarkRule c15), AV.agg (nGSetup r7.fst), AV.agg (nGMarking r10.fst), I c33] []) fun (r36 : Int × Int × Int) =>
   callD r_ref30_Total (cw f_ref30_Total [AV.agg (nGMarkRule c15), AV.agg (nGSetup r7.fst), AV.agg (nGMarking r10.fst), I c33] []) fun (r37 : Int × Int × Int) =>
   callD r_law30_verdicts (cw f_law30_verdicts [AV.sl 2 (List.map nGVerdict r34.fst), AV.sl 2 (List.map nGVerdict r35.fst)] []) fun (r38 : Bool) =>
   brn (!r38) (some (B false, []))
   (brn (r34.snd != r35.snd) (some (B false, []))
    (brn (r36.fst != r37.fst) (some (B false, []))
     (brn (r36.snd.fst != r37.snd.fst) (some (B false, []))
      (brn (r36.snd.snd != r37.snd.snd) (some (B false, []))
       (k_law30_ArbitrationExact_4 a1 a2 a3 r7 r10 r11 r12 x14 c15 r29 r30 r31 (w64 (x32 + 1))))))))
  (k_law30_ArbitrationExact_2 a1 a2 a3 r7 r10 r11 r12 r31.snd (w64 (x14 + 1)))) = some y) : k_law30_ArbitrationExact_4 a1 a2 a3 r7 r10 r11 r12 x14 c15 r29 r30 r31 x32 = some y :=
  pt_of zT [] (by kernel_rfl) h

theorem e_law30_ArbitrationExact (a0 : List Int) (a1 : List GGiven) (a2 : GMarkRule) (a3 : Int) {y : AV × Mem} (h : (
  callD r_mark_Light (cw f_mark_Light [AV.sl 1 (List.map nI_i64 a0)] []) fun (r0 : Bool) =>
  brn (!r0) (callD r_law30_sane (cw f_law30_sane [] []) fun (r1 : Bool) =>
   some (B r1, []))
  (brn (decide (40 < (↑(List.map nGGiven a1).length : Int))) (callD r_law30_sane (cw f_law30_sane [] []) fun (r2 : Bool) =>
    some (B r2, []))
   (k_law30_ArbitrationExact_1 a0 a1 a2 a3 0))) = some y) : cw f_law30_ArbitrationExact [AV.sl 1 (List.map nI_i64 a0), AV.sl 8 (List.map nGGiven a1), AV.agg (nGMarkRule a2), I a3] [] = some y :=
  callw_tree R_law30_ArbitrationExact zT [] rfl (by kernel_rfl) (by kernel_rfl) (by kernel_rfl) (by kernel_rfl) (by kernel_rfl) h

theorem e_mark_Light (a0 : List Int) {y : AV × Mem} (h : (
  some (B (decide ((↑(List.map nI_i64 a0).length : Int) ≤ 600)), [])) = some y) : cw f_mark_Light [AV.sl 1 (List.map nI_i64 a0)] [] = some y :=
  callw_tree R_mark_Light zT [] rfl (by kernel_rfl) (by kernel_rfl) (by kernel_rfl) (by kernel_rfl) (by kernel_rfl) h

theorem e_law30_sane {y : AV × Mem} (h : (
  callD r_arbitration_Decide (cw f_arbitration_Decide [AV.agg (nGMarkRule (⟨true, 2⟩)), AV.sl 8 (List.map nGGiven ([⟨0, 0, 0, 1, 5, ⟨0, 0, 0⟩⟩, ⟨0, 0, 0, 1, 6, ⟨0, 0, 0⟩⟩]))] []) fun (r0 : GVerdict) =>
  callD r_arbitration_Decide (cw f_arbitration_Decide [AV.agg (nGMarkRule (⟨true, 2⟩)), AV.sl 8 (List.map nGGiven ([⟨0, 0, 0, 1, 3, ⟨0, 0, 0⟩⟩, ⟨0, 0, 0, 1, 6, ⟨0, 0, 0⟩⟩]))] []) fun (r1 : GVerdict) =>
  callD r_arbitration_Decide (cw f_arbitration_Decide [AV.agg (nGMarkRule (⟨true, 2⟩)), AV.sl 8 (List.map nGGiven ([⟨0, 0, 0, 1, 7, ⟨0, 0, 0⟩⟩, ⟨0, 0, 0, 2, 4, ⟨0, 0, 0⟩⟩, ⟨0, 0, 0, 1, 7, ⟨0, 0, 0⟩⟩]))] []) fun (r2 : GVerdict) =>
  callD r_arbitration_Decide (cw f_arbitration_Decide [AV.agg (nGMarkRule (⟨true, 2⟩)), AV.sl 8 (List.map nGGiven ([⟨0, 0, 0, 1, 7, ⟨0, 0, 0⟩⟩]))] []) fun (r3 : GVerdict) =>
  brn (r0.State == 3 && (r0.Value == 6 && true)) (brn (r1.State == 2 && (r1.Value == 0 && true)) (brn (r2.State == 3 && (r2.Value == 4 && true)) (brn (r3.State == 1 && (r3.Value == 0 && true)) (callD r_arbitration_Decide (cw f_arbitration_Decide [AV.agg (nGMarkRule (⟨true, 2⟩)), AV.sl 8 (List.map nGGiven [])] []) fun (r4 : GVerdict) =>
      brn (r4.State == 0 && (r4.Value == 0 && true)) (callD r_arbitration_Check (cw f_arbitration_Check [AV.agg (nGMarkRule (⟨true, 2⟩))] []) fun (r5 : Int) =>
       some (B (r5 == 0), []))
      (some (B false, [])))
     (some (B false, [])))
    (some (B false, [])))
   (some (B false, [])))
  (some (B false, []))) = some y) : cw f_law30_sane [] [] = some y :=
  callw_tree R_law30_sane zT [] rfl (by kernel_rfl) (by kernel_rfl) (by kernel_rfl) (by kernel_rfl) (by kernel_rfl) h

theorem e_mark_Roll (a0 : List Int) {y : AV × Mem} (h : (
  some (AV.newp 2 ty_mark_Dice (nGmarkDice (⟨a0, 0⟩)), [])) = some y) : cw f_mark_Roll [AV.sl 1 (List.map nI_i64 a0)] [] = some y :=
  callw_tree R_mark_Roll zT [] rfl (by kernel_rfl) (by kernel_rfl) (by kernel_rfl) (by kernel_rfl) (by kernel_rfl) h

noncomputable def k_mark_Dice_Setup_1 (r0 : ((List GPaper) × (List GScheme)) × GmarkDice) (r1 : ((List GMarker)) × GmarkDice) (r2 : ((List GScript)) × GmarkDice) (r3 : GMonitorRule × GmarkDice) (x4 : List (List AV)) (x5 : GmarkDice) (x6 : Int) : Option (AV × Mem) := pt R_mark_Dice_Setup 1 ⟨[(0, AV.loc 1000 2 0 0), (2, AV.loc 2 9 0 0), (3, AV.sl 3 (List.map nGPaper r0.fst.fst)), (5, AV.loc 5 9 0 0), (6, I x6)], [(2, ⟨9, ty_api_Setup, [[AV.v (.slice none 0 0), AV.v (.slice none 0 0), AV.v (.slice none 0 0), AV.v (.slice none 0 0), AV.v (.slice none 0 0), I 0, I 0, I 0, I 0]], true⟩), (5, ⟨9, ty_api_Setup, [[AV.row 13 5 0 (List.length (List.map nGMarker r1.fst)), AV.row 16 7 0 (List.length (List.map nGScript r2.fst)), AV.sl 3 (List.map nGPaper r0.fst.fst), AV.sl 2 (List.map nGScheme r0.fst.snd), AV.row 900 2 0 (List.length x4), I r3.fst.Part, I r3.fst.Total, I r3.fst.Window, I r3.fst.Fails]], true⟩), (13, ⟨5, ty_api_Marker, List.map nGMarker r1.fst, false⟩), (16, ⟨7, ty_api_Script, List.map nGScript r2.fst, false⟩), (900, ⟨2, ty_api_Seed, x4, false⟩), (1000, ⟨2, ty_mark_Dice, [nGmarkDice x5], true⟩)]⟩

theorem t_mark_Dice_Setup_1 (r0 : ((List GPaper) × (List GScheme)) × GmarkDice) (r1 : ((List GMarker)) × GmarkDice) (r2 : ((List GScript)) × GmarkDice) (r3 : GMonitorRule × GmarkDice) (x4 : List (List AV)) (x5 : GmarkDice) (x6 : Int) {y : AV × Mem} (h : (
  brn (decide (x6 < (↑(List.map nGScript r2.fst).length : Int))) (callD r_mark_Dice_Bool (cw f_mark_Dice_Bool [AV.loc 1000 2 0 0, I 3] [(1000, ⟨2, ty_mark_Dice, [nGmarkDice x5], true⟩)]) fun (r7 : Bool × GmarkDice) =>
   brn r7.fst (chk ((0 : Int) ≤ x6) <|
    chk ((x6 : Int) < ((↑(List.map nGScript r2.fst).length : Int))) <|
    elemD dGScript (List.map nGScript r2.fst) (0 + x6.toNat) fun (c8 : GScript) =>
    callD r_mark_Dice_Seed (cw f_mark_Dice_Seed [AV.loc 1000 2 0 0, AV.sl 3 (List.map nGPaper r0.fst.fst), AV.agg (nGScript c8)] [(1000, ⟨2, ty_mark_Dice, [nGmarkDice r7.snd], true⟩)]) fun (r9 : GSeed × GmarkDice) =>
    chk (x4.length = x4.length) <|
    chk ((x4.length + 1) * (32 + 1) ≤ 1099511627776) <|
    k_mark_Dice_Setup_1 r0 r1 r2 r3 (x4 ++ ([nGSeed r9.fst])) r9.snd (w64 (x6 + 1)))
   (k_mark_Dice_Setup_1 r0 r1 r2 r3 x4 r7.snd (w64 (x6 + 1))))
  (chk (0 + (List.map nGMarker r1.fst).length ≤ (List.map nGMarker r1.fst).length) <|
   chk (0 + (List.map nGScript r2.fst).length ≤ (List.map nGScript r2.fst).length) <|
   chk (0 + x4.length ≤ x4.length) <|
   some (AV.agg [AV.sl 5 (List.take ((List.map nGMarker r1.fst).length) (List.map nGMarker r1.fst)), AV.sl 7 (List.take ((List.map nGScript r2.fst).length) (List.map nGScript r2.fst)), AV.sl 3 (List.map nGPaper r0.fst.fst), AV.sl 2 (List.map nGScheme r0.fst.snd), AV.sl 2 (List.take x4.length x4), I r3.fst.Part, I r3.fst.Total, I r3.fst.Window, I r3.fst.Fails], [(1000, ⟨2, ty_mark_Dice, [nGmarkDice x5], true⟩)]))) = some y) : k_mark_Dice_Setup_1 r0 r1 r2 r3 x4 x5 x6 = some y :=
  pt_of zT [] (by kernel_rfl) h

theorem e_mark_Dice_Setup (a0 : GmarkDice) {y : AV × Mem} (h : (
  callD r_mark_Dice_Papers (cw f_mark_Dice_Papers [AV.loc 1000 2 0 0] [(1000, ⟨2, ty_mark_Dice, [nGmarkDice a0], true⟩)]) fun (r0 : ((List GPaper) × (List GScheme)) × GmarkDice) =>
  callD r_mark_Dice_Markers (cw f_mark_Dice_Markers [AV.loc 1000 2 0 0] [(1000, ⟨2, ty_mark_Dice, [nGmarkDice r0.snd], true⟩)]) fun (r1 : ((List GMarker)) × GmarkDice) =>
  callD r_mark_Dice_Scripts (cw f_mark_Dice_Scripts [AV.loc 1000 2 0 0, AV.sl 3 (List.map nGPaper r0.fst.fst), I 4] [(1000, ⟨2, ty_mark_Dice, [nGmarkDice r1.snd], true⟩)]) fun (r2 : ((List GScript)) × GmarkDice) =>
  callD r_mark_Dice_Monitor (cw f_mark_Dice_Monitor [AV.loc 1000 2 0 0] [(1000, ⟨2, ty_mark_Dice, [nGmarkDice r2.snd], true⟩)]) fun (r3 : GMonitorRule × GmarkDice) =>
  k_mark_Dice_Setup_1 r0 r1 r2 r3 [] r3.snd 0) = some y) : cw f_mark_Dice_Setup [AV.loc 1000 2 0 0] [(1000, ⟨2, ty_mark_Dice, [nGmarkDice a0], true⟩)] = some y :=
  callw_tree R_mark_Dice_Setup zT [] rfl (by kernel_rfl) (by kernel_rfl) (by kernel_rfl) (by kernel_rfl) (by kernel_rfl) h

noncomputable def k_ref29_Fold_1 (a0 : GSetup) (r1 : (List GMarkEvent) × Int) (r2 : (List GSuspension) × (List Bool)) (x3 : List (List AV)) (x4 : Int) : Option (AV × Mem) := pt R_ref29_Fold 1 ⟨[(2, AV.loc 2 9 0 0), (4, AV.loc 4 2 0 0), (6, AV.sl 9 (List.map nGMarkEvent r1.fst)), (8, AV.loc 8 2 0 0), (10, AV.sl 1 (List.map nBool r2.snd)), (11, I x4)], [(2, ⟨9, ty_api_Setup, [nGSetup a0], true⟩), (4, ⟨2, ty_api_Marking, [[AV.v (.slice none 0 0), AV.v (.slice none 0 0)]], true⟩), (8, ⟨2, ty_api_Marking, [[AV.row 901 8 0 (List.length x3), AV.sl 12 (List.map nGSuspension r2.fst)]], true⟩), (901, ⟨8, ty_api_Given, x3, false⟩)]⟩

theorem t_ref29_Fold_1 (a0 : GSetup) (r1 : (List GMarkEvent) × Int) (r2 : (List GSuspension) × (List Bool)) (x3 : List (List AV)) (x4 : Int) {y : AV × Mem} (h : (
  brn (decide (x4 < (↑(List.map nGMarkEvent r1.fst).length : Int))) (chk ((0 : Int) ≤ x4) <|
   elemD dGMarkEvent (List.map nGMarkEvent r1.fst) x4.toNat fun (c5 : GMarkEvent) =>
   callD r_ref26_Definitive (cw f_ref26_Definitive [AV.sl 2 (List.map nGSeed a0.Seeds), I c5.Script] []) fun (r6 : (List Int) × Bool) =>
   brn r6.snd (k_ref29_Fold_1 a0 r1 r2 x3 (w64 (x4 + 1)))
   (chk ((0 : Int) ≤ x4) <|
    elemD dBool (List.map nBool r2.snd) x4.toNat fun (c7 : Bool) =>
    brn c7 (k_ref29_Fold_1 a0 r1 r2 x3 (w64 (x4 + 1)))
    (chk ((0 : Int) ≤ x4) <|
     elemD dGMarkEvent (List.map nGMarkEvent r1.fst) x4.toNat fun (c8 : GMarkEvent) =>
     callD r_ref29_Fits (cw f_ref29_Fits [AV.agg (nGSetup a0), AV.agg (nGMarkEvent c8)] []) fun (r9 : Bool) =>
     brn (!r9) (k_ref29_Fold_1 a0 r1 r2 x3 (w64 (x4 + 1)))
     (callD r_ref29_stopped (cw f_ref29_stopped [AV.agg (nGSetup a0), AV.sl 9 (List.map nGMarkEvent r1.fst), I x4] []) fun (r10 : Bool) =>
      brn r10 (k_ref29_Fold_1 a0 r1 r2 x3 (w64 (x4 + 1)))
      (chk ((0 : Int) ≤ x4) <|
       elemD dGMarkEvent (List.map nGMarkEvent r1.fst) x4.toNat fun (c11 : GMarkEvent) =>
       callD r_ref24_Find (cw f_ref24_Find [AV.sl 5 (List.map nGMarker a0.Markers), I c11.Stamp.Source] []) fun (r12 : GMarker × Bool) =>
       chk ((0 : Int) ≤ x4) <|
       elemD dGMarkEvent (List.map nGMarkEvent r1.fst) x4.toNat fun (c13 : GMarkEvent) =>
       chk ((0 : Int) ≤ x4) <|
       elemD dGMarkEvent (List.map nGMarkEvent r1.fst) x4.toNat fun (c14 : GMarkEvent) =>
       chk ((0 : Int) ≤ x4) <|
       elemD dGMarkEvent (List.map nGMarkEvent r1.fst) x4.toNat fun (c15 : GMarkEvent) =>
       chk ((0 : Int) ≤ x4) <|
       elemD dGMarkEvent (List.map nGMarkEvent r1.fst) x4.toNat fun (c16 : GMarkEvent) =>
       chk (x3.length = x3.length) <|
       callD r_ref29_put (cw f_ref29_put [AV.row 950 8 0 (List.length x3), AV.agg (nGGiven (⟨c13.Script, c14.Part, r12.fst.ID, r12.fst.Level, c15.Value, ⟨c16.Stamp.Time, c16.Stamp.Source, c16.Stamp.Seq⟩⟩))] [(950, ⟨8, ty_api_Given, x3, false⟩)]) fun (r17 : (List GGiven)) =>
       k_ref29_Fold_1 a0 r1 r2 (List.map nGGiven r17) (w64 (x4 + 1)))))))
  (chk (0 + x3.length ≤ x3.length) <|
   some (AV.tup [AV.agg [AV.sl 8 (List.take x3.length x3), AV.sl 12 (List.map nGSuspension r2.fst)], I 0], []))) = some y) : k_ref29_Fold_1 a0 r1 r2 x3 x4 = some y :=
  pt_of zT [] (by kernel_rfl) h

theorem e_ref29_Fold (a0 : GSetup) (a1 : List GMarkEvent) {y : AV × Mem} (h : (
  callD r_ref29_Check (cw f_ref29_Check [AV.agg (nGSetup a0)] []) fun (r0 : Int) =>
  brn (r0 != 0) (some (AV.tup [AV.agg (nGMarking (⟨[], []⟩)), I 1], []))
  (callD r_ref28_Canonical (cw f_ref28_Canonical [AV.sl 9 (List.map nGMarkEvent a1)] []) fun (r1 : (List GMarkEvent) × Int) =>
   brn (r1.snd != 0) (some (AV.tup [AV.agg (nGMarking (⟨[], []⟩)), I r1.snd], []))
   (callD r_ref29_all (cw f_ref29_all [AV.agg (nGSetup a0), AV.sl 9 (List.map nGMarkEvent r1.fst)] []) fun (r2 : (List GSuspension) × (List Bool)) =>
    k_ref29_Fold_1 a0 r1 r2 [] 0))) = some y) : cw f_ref29_Fold [AV.agg (nGSetup a0), AV.sl 9 (List.map nGMarkEvent a1)] [] = some y :=
  callw_tree R_ref29_Fold zT [] rfl (by kernel_rfl) (by kernel_rfl) (by kernel_rfl) (by kernel_rfl) (by kernel_rfl) h

end Go.Proofs.YtdhibifcofaioaaGreat
