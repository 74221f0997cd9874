/- What the functions compute, between two cut points: printed by a program, checked by the kernel. -/
import Derived.Test.YtdhibifcofaioaaGreatAnn
namespace Go.Proofs.YtdhibifcofaioaaGreat
open Go.Ab
set_option maxRecDepth 100000
set_option linter.unusedVariables false

noncomputable def k_ref30_Verdicts_1 (a0 : GMarkRule) (a1 : GSetup) (a2 : GMarking) (a3 : Int) (r3 : Int × Bool) (r6 : (List Int) × Int) (r7 : (List Int) × Bool) (x8 : List (List AV)) (x9 : Int) : Option (AV × Mem) := pt R_ref30_Verdicts 1 ⟨[(3, I a3), (4, AV.loc 4 2 0 0), (5, AV.loc 5 9 0 0), (6, AV.loc 6 2 0 0), (12, I r3.fst), (14, AV.sl 1 (List.map nI_i64 r6.fst)), (16, AV.sl 1 (List.map nI_i64 r7.fst)), (17, B r7.snd), (18, AV.row 18 2 0 (List.length x8)), (19, I x9)], [(4, ⟨2, ty_api_MarkRule, [nGMarkRule a0], true⟩), (5, ⟨9, ty_api_Setup, [nGSetup a1], true⟩), (6, ⟨2, ty_api_Marking, [nGMarking a2], true⟩), (18, ⟨2, ty_api_Verdict, x8, false⟩)]⟩

noncomputable def k_ref30_Verdicts_1015 (a0 : GMarkRule) (a1 : GSetup) (a2 : GMarking) (a3 : Int) (r3 : Int × Bool) (r6 : (List Int) × Int) (r7 : (List Int) × Bool) (x8 : List (List AV)) (x9 : Int) : Option (AV × Mem) := pt R_ref30_Verdicts 1015 ⟨[(3, I a3), (4, AV.loc 4 2 0 0), (5, AV.loc 5 9 0 0), (6, AV.loc 6 2 0 0), (12, I r3.fst), (14, AV.sl 1 (List.map nI_i64 r6.fst)), (16, AV.sl 1 (List.map nI_i64 r7.fst)), (17, B r7.snd), (18, AV.row 18 2 0 (List.length x8)), (19, I x9), (86, B true)], [(4, ⟨2, ty_api_MarkRule, [nGMarkRule a0], true⟩), (5, ⟨9, ty_api_Setup, [nGSetup a1], true⟩), (6, ⟨2, ty_api_Marking, [nGMarking a2], true⟩), (18, ⟨2, ty_api_Verdict, x8, false⟩)]⟩

theorem t_ref30_Verdicts_1 (a0 : GMarkRule) (a1 : GSetup) (a2 : GMarking) (a3 : Int) (r3 : Int × Bool) (r6 : (List Int) × Int) (r7 : (List Int) × Bool) (x8 : List (List AV)) (x9 : Int) {y : AV × Mem} (h : (
  chk (0 ≤ r3.fst) <|
  elemD dGPaper (List.map nGPaper a1.Papers) (Int.toNat r3.fst) fun (c10 : GPaper) =>
  brn (decide (x9 < (↑(List.map nGPart c10.Parts).length : Int))) (chk (0 ≤ r3.fst) <|
   elemD dGPaper (List.map nGPaper a1.Papers) (Int.toNat r3.fst) fun (c11 : GPaper) =>
   callD r_ref29_Open (cw f_ref29_Open [AV.agg (nGPaper c11), I x9] []) fun (r12 : Bool) =>
   brn (!r12) (k_ref30_Verdicts_1015 a0 a1 a2 a3 r3 r6 r7 x8 x9)
   (chk (0 ≤ r3.fst) <|
    elemD dGScheme (List.map nGScheme a1.Schemes) (Int.toNat r3.fst) fun (c13 : GScheme) =>
    chk ((0 : Int) ≤ x9) <|
    elemD dI_i64 (List.map nI_i64 c13.Withdrawn) x9.toNat fun (c14 : Int) =>
    brn (c14 != 0) (k_ref30_Verdicts_1015 a0 a1 a2 a3 r3 r6 r7 x8 x9)
    (brn r7.snd (chk ((0 : Int) ≤ x9) <|
      elemD dI_i64 (List.map nI_i64 r7.fst) x9.toNat fun (c15 : Int) =>
      chk (x8.length = x8.length) <|
      chk ((x8.length + 1) * (16 + 1) ≤ 1099511627776) <|
      chk ((x8 ++ [[AV.v (Go.Value.int IntKind.i64 3), AV.v (Go.Value.int IntKind.i64 c15)]]).length = (x8 ++ [[AV.v (Go.Value.int IntKind.i64 3), AV.v (Go.Value.int IntKind.i64 c15)]]).length) <|
      k_ref30_Verdicts_1 a0 a1 a2 a3 r3 r6 r7 (x8 ++ ([nGVerdict (⟨3, c15⟩)])) (w64 (x9 + 1)))
     (callD r_ref29_Counting (cw f_ref29_Counting [AV.agg (nGMarking a2), I a3, I x9] []) fun (r16 : (List GGiven)) =>
      chk (0 + (List.map nGGiven r16).length ≤ (List.map nGGiven r16).length) <|
      callD r_ref30_Decide (cw f_ref30_Decide [AV.agg (nGMarkRule a0), AV.sl 8 (List.take ((List.map nGGiven r16).length) (List.map nGGiven r16))] []) fun (r17 : GVerdict) =>
      chk (x8.length = x8.length) <|
      chk ((x8.length + 1) * (16 + 1) ≤ 1099511627776) <|
      chk ((x8 ++ [[AV.v (Go.Value.int IntKind.i64 r17.State), AV.v (Go.Value.int IntKind.i64 r17.Value)]]).length = (x8 ++ [[AV.v (Go.Value.int IntKind.i64 r17.State), AV.v (Go.Value.int IntKind.i64 r17.Value)]]).length) <|
      k_ref30_Verdicts_1 a0 a1 a2 a3 r3 r6 r7 (x8 ++ ([nGVerdict r17])) (w64 (x9 + 1))))))
  (chk (0 + x8.length ≤ x8.length) <|
   some (AV.tup [AV.sl 2 (List.take x8.length x8), I 0], []))) = some y) : k_ref30_Verdicts_1 a0 a1 a2 a3 r3 r6 r7 x8 x9 = some y :=
  pt_of zT [15] (by kernel_rfl) h

theorem t_ref30_Verdicts_1015 (a0 : GMarkRule) (a1 : GSetup) (a2 : GMarking) (a3 : Int) (r3 : Int × Bool) (r6 : (List Int) × Int) (r7 : (List Int) × Bool) (x8 : List (List AV)) (x9 : Int) {y : AV × Mem} (h : (
  chk ((0 : Int) ≤ x9) <|
  elemD dI_i64 (List.map nI_i64 r6.fst) x9.toNat fun (c18 : Int) =>
  chk (x8.length = x8.length) <|
  chk ((x8.length + 1) * (16 + 1) ≤ 1099511627776) <|
  chk ((x8 ++ [[AV.v (Go.Value.int IntKind.i64 3), AV.v (Go.Value.int IntKind.i64 (if 0 > c18 then 0 else c18))]]).length = (x8 ++ [[AV.v (Go.Value.int IntKind.i64 3), AV.v (Go.Value.int IntKind.i64 (if 0 > c18 then 0 else c18))]]).length) <|
  k_ref30_Verdicts_1 a0 a1 a2 a3 r3 r6 r7 (x8 ++ ([nGVerdict (⟨3, if 0 > c18 then 0 else c18⟩)])) (w64 (x9 + 1))) = some y) : k_ref30_Verdicts_1015 a0 a1 a2 a3 r3 r6 r7 x8 x9 = some y :=
  pt_of zT [15] (by kernel_rfl) h

theorem e_ref30_Verdicts (a0 : GMarkRule) (a1 : GSetup) (a2 : GMarking) (a3 : Int) {y : AV × Mem} (h : (
  callD r_ref29_Check (cw f_ref29_Check [AV.agg (nGSetup a1)] []) fun (r0 : Int) =>
  brn (r0 != 0) (some (AV.tup [AV.sl 2 (List.map nGVerdict []), I 1], []))
  (callD r_ref30_Check (cw f_ref30_Check [AV.agg (nGMarkRule a0)] []) fun (r1 : Int) =>
   brn (r1 != 0) (some (AV.tup [AV.sl 2 (List.map nGVerdict []), I 1], []))
   (callD r_ref24_Script (cw f_ref24_Script [AV.sl 7 (List.map nGScript a1.Scripts), I a3] []) fun (r2 : GScript × Bool) =>
    brn (!r2.snd) (some (AV.tup [AV.sl 2 (List.map nGVerdict []), I 4], []))
    (callD r_ref29_PaperOf (cw f_ref29_PaperOf [AV.agg (nGSetup a1), I a3] []) fun (r3 : Int × Bool) =>
     chk (0 ≤ r3.fst) <|
     elemD dGPaper (List.map nGPaper a1.Papers) (Int.toNat r3.fst) fun (c4 : GPaper) =>
     chk (0 ≤ r3.fst) <|
     elemD dGScheme (List.map nGScheme a1.Schemes) (Int.toNat r3.fst) fun (c5 : GScheme) =>
     callD r_ref23_Closed (cw f_ref23_Closed [AV.agg (nGPaper c4), AV.agg (nGScheme c5), AV.sl 1 (List.map nI_i64 r2.fst.Answers)] []) fun (r6 : (List Int) × Int) =>
     callD r_ref26_Definitive (cw f_ref26_Definitive [AV.sl 2 (List.map nGSeed a1.Seeds), I a3] []) fun (r7 : (List Int) × Bool) =>
     k_ref30_Verdicts_1 a0 a1 a2 a3 r3 r6 r7 [] 0)))) = some y) : cw f_ref30_Verdicts [AV.agg (nGMarkRule a0), AV.agg (nGSetup a1), AV.agg (nGMarking a2), I a3] [] = some y :=
  callw_tree R_ref30_Verdicts zT [15] rfl (by kernel_rfl) (by kernel_rfl) (by kernel_rfl) (by kernel_rfl) (by kernel_rfl) h

noncomputable def k_arbitration_Total_1 (a1 : GSetup) (a3 : Int) (r0 : (List GVerdict) × Int) (x1 : List (List AV)) (x2 : Int) (x3 : Int) : Option (AV × Mem) := pt R_arbitration_Total 1 ⟨[(3, I a3), (5, AV.loc 5 9 0 0), (8, I x2), (12, AV.row 12 1 0 (List.length x1)), (28, AV.sl 2 (List.map nGVerdict r0.fst)), (29, I ((↑(List.map nGVerdict r0.fst).length : Int))), (30, I x3)], [(5, ⟨9, ty_api_Setup, [nGSetup a1], true⟩), (12, ⟨1, ty_i64_2, x1, false⟩)]⟩

theorem t_arbitration_Total_1 (a1 : GSetup) (a3 : Int) (r0 : (List GVerdict) × Int) (x1 : List (List AV)) (x2 : Int) (x3 : Int) {y : AV × Mem} (h : (
  brn (decide (x3 < (↑(List.map nGVerdict r0.fst).length : Int))) (chk ((0 : Int) ≤ x3) <|
   elemD dGVerdict (List.map nGVerdict r0.fst) x3.toNat fun (c4 : GVerdict) =>
   chk (x1.length = x1.length) <|
   chk ((x1.length + 1) * (8 + 1) ≤ 1099511627776) <|
   chk ((x1 ++ [[AV.v (Go.Value.int IntKind.i64 c4.Value)]]).length = (x1 ++ [[AV.v (Go.Value.int IntKind.i64 c4.Value)]]).length) <|
   k_arbitration_Total_1 a1 a3 r0 (x1 ++ ([nI_i64 c4.Value])) (if c4.State < x2 then c4.State else x2) (w64 (x3 + 1)))
  (brn (x2 != 3) (some (AV.tup [I x2, I 0, I 0], []))
   (callD r_marking_PaperOf (cw f_marking_PaperOf [AV.agg (nGSetup a1), I a3] []) fun (r5 : Int × Bool) =>
    chk (0 ≤ r5.fst) <|
    elemD dGPaper (List.map nGPaper a1.Papers) (Int.toNat r5.fst) fun (c6 : GPaper) =>
    chk (0 ≤ r5.fst) <|
    elemD dGScheme (List.map nGScheme a1.Schemes) (Int.toNat r5.fst) fun (c7 : GScheme) =>
    chk (0 + x1.length ≤ x1.length) <|
    callD r_scheme_Total (cw f_scheme_Total [AV.agg (nGPaper c6), AV.agg (nGScheme c7), AV.sl 1 (List.take x1.length x1)] []) fun (r8 : Int × Int) =>
    brn (r8.snd != 0) (some (AV.tup [I 0, I 0, I r8.snd], []))
    (some (AV.tup [I x2, I r8.fst, I 0], []))))) = some y) : k_arbitration_Total_1 a1 a3 r0 x1 x2 x3 = some y :=
  pt_of zT [] (by kernel_rfl) h

theorem e_arbitration_Total (a0 : GMarkRule) (a1 : GSetup) (a2 : GMarking) (a3 : Int) {y : AV × Mem} (h : (
  callD r_arbitration_Verdicts (cw f_arbitration_Verdicts [AV.agg (nGMarkRule a0), AV.agg (nGSetup a1), AV.agg (nGMarking a2), I a3] []) fun (r0 : (List GVerdict) × Int) =>
  brn (r0.snd != 0) (some (AV.tup [I 0, I 0, I r0.snd], []))
  (k_arbitration_Total_1 a1 a3 r0 [] 3 0)) = some y) : cw f_arbitration_Total [AV.agg (nGMarkRule a0), AV.agg (nGSetup a1), AV.agg (nGMarking a2), I a3] [] = some y :=
  callw_tree R_arbitration_Total zT [] rfl (by kernel_rfl) (by kernel_rfl) (by kernel_rfl) (by kernel_rfl) (by kernel_rfl) h

noncomputable def k_ref30_Total_1 (a1 : GSetup) (a3 : Int) (r0 : (List GVerdict) × Int) (x1 : List (List AV)) (x2 : Int) (x3 : Int) : Option (AV × Mem) := pt R_ref30_Total 1 ⟨[(3, I a3), (5, AV.loc 5 9 0 0), (11, AV.sl 2 (List.map nGVerdict r0.fst)), (13, I x2), (14, AV.row 14 1 0 (List.length x1)), (15, I x3)], [(5, ⟨9, ty_api_Setup, [nGSetup a1], true⟩), (14, ⟨1, ty_i64_2, x1, false⟩)]⟩

theorem t_ref30_Total_1 (a1 : GSetup) (a3 : Int) (r0 : (List GVerdict) × Int) (x1 : List (List AV)) (x2 : Int) (x3 : Int) {y : AV × Mem} (h : (
  brn (decide (x3 < (↑(List.map nGVerdict r0.fst).length : Int))) (chk ((0 : Int) ≤ x3) <|
   elemD dGVerdict (List.map nGVerdict r0.fst) x3.toNat fun (c4 : GVerdict) =>
   chk ((0 : Int) ≤ x3) <|
   elemD dGVerdict (List.map nGVerdict r0.fst) x3.toNat fun (c5 : GVerdict) =>
   chk (x1.length = x1.length) <|
   chk ((x1.length + 1) * (8 + 1) ≤ 1099511627776) <|
   chk ((x1 ++ [[AV.v (Go.Value.int IntKind.i64 c5.Value)]]).length = (x1 ++ [[AV.v (Go.Value.int IntKind.i64 c5.Value)]]).length) <|
   k_ref30_Total_1 a1 a3 r0 (x1 ++ ([nI_i64 c5.Value])) (if c4.State < x2 then c4.State else x2) (w64 (x3 + 1)))
  (brn (x2 != 3) (some (AV.tup [I x2, I 0, I 0], []))
   (callD r_ref29_PaperOf (cw f_ref29_PaperOf [AV.agg (nGSetup a1), I a3] []) fun (r6 : Int × Bool) =>
    chk (0 ≤ r6.fst) <|
    elemD dGPaper (List.map nGPaper a1.Papers) (Int.toNat r6.fst) fun (c7 : GPaper) =>
    chk (0 ≤ r6.fst) <|
    elemD dGScheme (List.map nGScheme a1.Schemes) (Int.toNat r6.fst) fun (c8 : GScheme) =>
    chk (0 + x1.length ≤ x1.length) <|
    callD r_ref23_Total (cw f_ref23_Total [AV.agg (nGPaper c7), AV.agg (nGScheme c8), AV.sl 1 (List.take x1.length x1)] []) fun (r9 : Int × Int) =>
    some (AV.tup [I x2, I r9.fst, I r9.snd], [])))) = some y) : k_ref30_Total_1 a1 a3 r0 x1 x2 x3 = some y :=
  pt_of zT [] (by kernel_rfl) h

theorem e_ref30_Total (a0 : GMarkRule) (a1 : GSetup) (a2 : GMarking) (a3 : Int) {y : AV × Mem} (h : (
  callD r_ref30_Verdicts (cw f_ref30_Verdicts [AV.agg (nGMarkRule a0), AV.agg (nGSetup a1), AV.agg (nGMarking a2), I a3] []) fun (r0 : (List GVerdict) × Int) =>
  brn (r0.snd != 0) (some (AV.tup [I 0, I 0, I r0.snd], []))
  (k_ref30_Total_1 a1 a3 r0 [] 3 0)) = some y) : cw f_ref30_Total [AV.agg (nGMarkRule a0), AV.agg (nGSetup a1), AV.agg (nGMarking a2), I a3] [] = some y :=
  callw_tree R_ref30_Total zT [] rfl (by kernel_rfl) (by kernel_rfl) (by kernel_rfl) (by kernel_rfl) (by kernel_rfl) h

noncomputable def k_law30_verdicts_1 (a0 : List GVerdict) (a1 : List GVerdict) (x0 : Int) : Option (AV × Mem) := pt R_law30_verdicts 1 ⟨[(0, AV.sl 2 (List.map nGVerdict a0)), (1, AV.sl 2 (List.map nGVerdict a1)), (12, I ((↑(List.map nGVerdict a0).length : Int))), (13, I x0)], []⟩

theorem t_law30_verdicts_1 (a0 : List GVerdict) (a1 : List GVerdict) (x0 : Int) {y : AV × Mem} (h : (
  brn (decide (x0 < (↑(List.map nGVerdict a0).length : Int))) (chk ((0 : Int) ≤ x0) <|
   elemD dGVerdict (List.map nGVerdict a0) x0.toNat fun (c1 : GVerdict) =>
   chk ((0 : Int) ≤ x0) <|
   elemD dGVerdict (List.map nGVerdict a1) x0.toNat fun (c2 : GVerdict) =>
   brn (!(c1.State == c2.State && (c1.Value == c2.Value && true))) (some (B false, []))
   (k_law30_verdicts_1 a0 a1 (w64 (x0 + 1))))
  (some (B true, []))) = some y) : k_law30_verdicts_1 a0 a1 x0 = some y :=
  pt_of zT [] (by kernel_rfl) h

theorem e_law30_verdicts (a0 : List GVerdict) (a1 : List GVerdict) {y : AV × Mem} (h : (
  brn ((↑(List.map nGVerdict a0).length : Int) != (↑(List.map nGVerdict a1).length : Int)) (some (B false, []))
  (k_law30_verdicts_1 a0 a1 0)) = some y) : cw f_law30_verdicts [AV.sl 2 (List.map nGVerdict a0), AV.sl 2 (List.map nGVerdict a1)] [] = some y :=
  callw_tree R_law30_verdicts zT [] rfl (by kernel_rfl) (by kernel_rfl) (by kernel_rfl) (by kernel_rfl) (by kernel_rfl) h

theorem e_ref29_PaperOf (a0 : GSetup) (a1 : Int) {y : AV × Mem} (h : (
  callD r_ref24_Script (cw f_ref24_Script [AV.sl 7 (List.map nGScript a0.Scripts), I a1] []) fun (r0 : GScript × Bool) =>
  brn (!r0.snd) (some (AV.tup [I 0, B false], []))
  (callD r_ref26_Paper (cw f_ref26_Paper [AV.sl 3 (List.map nGPaper a0.Papers), AV.agg (nGScript r0.fst)] []) fun (r1 : Int × Bool) =>
   some (AV.tup [I r1.fst, B r1.snd], []))) = some y) : cw f_ref29_PaperOf [AV.agg (nGSetup a0), I a1] [] = some y :=
  callw_tree R_ref29_PaperOf zT [] rfl (by kernel_rfl) (by kernel_rfl) (by kernel_rfl) (by kernel_rfl) (by kernel_rfl) h

noncomputable def k_mark_Dice_Papers_1004 (r0 : GPaper × GmarkDice) (r2 : GPaper × GmarkDice) : Option (AV × Mem) := pt R_mark_Dice_Papers 1004 ⟨[(0, AV.loc 1000 2 0 0), (4, AV.row 4 3 0 (List.length (([[I r0.fst.Code, I r0.fst.Variant, AV.sl 6 (List.map nGPart r0.fst.Parts)]]) ++ ([[I r2.fst.Code, I r2.fst.Variant, AV.sl 6 (List.map nGPart r2.fst.Parts)]]))))], [(4, ⟨3, ty_api_Paper, ([nGPaper r0.fst]) ++ ([nGPaper r2.fst]), false⟩), (1000, ⟨2, ty_mark_Dice, [nGmarkDice r2.snd], true⟩)]⟩

noncomputable def k_mark_Dice_Papers_1004v1 (r0 : GPaper × GmarkDice) (r1 : Bool × GmarkDice) : Option (AV × Mem) := pt R_mark_Dice_Papers 1004 ⟨[(0, AV.loc 1000 2 0 0), (4, AV.row 4 3 0 (List.length ([[I r0.fst.Code, I r0.fst.Variant, AV.sl 6 (List.map nGPart r0.fst.Parts)]]))), (11, B false)], [(4, ⟨3, ty_api_Paper, [nGPaper r0.fst], false⟩), (1000, ⟨2, ty_mark_Dice, [nGmarkDice r1.snd], true⟩)]⟩

noncomputable def k_mark_Dice_Papers_1 (x5 : List (List AV)) (x6 : List (List AV)) (x7 : GmarkDice) (x8 : Int) : Option (AV × Mem) := pt R_mark_Dice_Papers 1 ⟨[(0, AV.loc 1000 2 0 0), (4, AV.row 4 3 0 (List.length x5)), (5, AV.row 5 2 0 (List.length x6)), (6, I x8)], [(4, ⟨3, ty_api_Paper, x5, false⟩), (5, ⟨2, ty_api_Scheme, x6, false⟩), (1000, ⟨2, ty_mark_Dice, [nGmarkDice x7], true⟩)]⟩

theorem t_mark_Dice_Papers_1004 (r0 : GPaper × GmarkDice) (r2 : GPaper × GmarkDice) {y : AV × Mem} (h : (
  callD r_mark_Dice_Bool (cw f_mark_Dice_Bool [AV.loc 1000 2 0 0, I 2] [(1000, ⟨2, ty_mark_Dice, [nGmarkDice r2.snd], true⟩)]) fun (r3 : Bool × GmarkDice) =>
  brn r3.fst (callD r_mark_Dice_Paper (cw f_mark_Dice_Paper [AV.loc 1000 2 0 0, I 1, I 0] [(1000, ⟨2, ty_mark_Dice, [nGmarkDice r3.snd], true⟩)]) fun (r4 : GPaper × GmarkDice) =>
   chk (2 = 2) <|
   chk ((2 + 1) * (40 + 1) ≤ 1099511627776) <|
   chk (3 = 3) <|
   k_mark_Dice_Papers_1 ((([nGPaper r0.fst]) ++ ([nGPaper r2.fst])) ++ ([nGPaper r4.fst])) [] r4.snd 0)
  (k_mark_Dice_Papers_1 (([nGPaper r0.fst]) ++ ([nGPaper r2.fst])) [] r3.snd 0)) = some y) : k_mark_Dice_Papers_1004 r0 r2 = some y :=
  pt_of zT [4] (by kernel_rfl) h

theorem t_mark_Dice_Papers_1004v1 (r0 : GPaper × GmarkDice) (r1 : Bool × GmarkDice) {y : AV × Mem} (h : (
  callD r_mark_Dice_Bool (cw f_mark_Dice_Bool [AV.loc 1000 2 0 0, I 2] [(1000, ⟨2, ty_mark_Dice, [nGmarkDice r1.snd], true⟩)]) fun (r9 : Bool × GmarkDice) =>
  brn r9.fst (callD r_mark_Dice_Paper (cw f_mark_Dice_Paper [AV.loc 1000 2 0 0, I 1, I 0] [(1000, ⟨2, ty_mark_Dice, [nGmarkDice r9.snd], true⟩)]) fun (r10 : GPaper × GmarkDice) =>
   chk (1 = 1) <|
   chk ((1 + 1) * (40 + 1) ≤ 1099511627776) <|
   chk (2 = 2) <|
   k_mark_Dice_Papers_1 (([nGPaper r0.fst]) ++ ([nGPaper r10.fst])) [] r10.snd 0)
  (k_mark_Dice_Papers_1 ([nGPaper r0.fst]) [] r9.snd 0)) = some y) : k_mark_Dice_Papers_1004v1 r0 r1 = some y :=
  pt_of zT [4] (by kernel_rfl) h

theorem t_mark_Dice_Papers_1 (x5 : List (List AV)) (x6 : List (List AV)) (x7 : GmarkDice) (x8 : Int) {y : AV × Mem} (h : (
  brn (decide (x8 < (↑x5.length : Int))) (chk ((0 : Int) ≤ x8) <|
   chk ((x8 : Int) < (↑x5.length : Int)) <|
   elemD dGPaper x5 (0 + x8.toNat) fun (c11 : GPaper) =>
   callD r_mark_Dice_Scheme (cw f_mark_Dice_Scheme [AV.loc 1000 2 0 0, AV.agg (nGPaper c11)] [(1000, ⟨2, ty_mark_Dice, [nGmarkDice x7], true⟩)]) fun (r12 : GScheme × GmarkDice) =>
   chk (x6.length = x6.length) <|
   chk ((x6.length + 1) * (48 + 1) ≤ 1099511627776) <|
   chk ((x6 ++ [[AV.sl 1 (List.map nL_I_i64 r12.fst.Keys), AV.sl 1 (List.map nI_i64 r12.fst.Withdrawn)]]).length = (x6 ++ [[AV.sl 1 (List.map nL_I_i64 r12.fst.Keys), AV.sl 1 (List.map nI_i64 r12.fst.Withdrawn)]]).length) <|
   k_mark_Dice_Papers_1 x5 (x6 ++ ([nGScheme r12.fst])) r12.snd (w64 (x8 + 1)))
  (chk (0 + x5.length ≤ x5.length) <|
   chk (0 + x6.length ≤ x6.length) <|
   some (AV.tup [AV.sl 3 (List.take x5.length x5), AV.sl 2 (List.take x6.length x6)], [(1000, ⟨2, ty_mark_Dice, [nGmarkDice x7], true⟩)]))) = some y) : k_mark_Dice_Papers_1 x5 x6 x7 x8 = some y :=
  pt_of zT [4] (by kernel_rfl) h

theorem e_mark_Dice_Papers (a0 : GmarkDice) {y : AV × Mem} (h : (
  callD r_mark_Dice_Paper (cw f_mark_Dice_Paper [AV.loc 1000 2 0 0, I 0, I 0] [(1000, ⟨2, ty_mark_Dice, [nGmarkDice a0], true⟩)]) fun (r0 : GPaper × GmarkDice) =>
  chk (1 = 1) <|
  callD r_mark_Dice_Bool (cw f_mark_Dice_Bool [AV.loc 1000 2 0 0, I 2] [(1000, ⟨2, ty_mark_Dice, [nGmarkDice r0.snd], true⟩)]) fun (r1 : Bool × GmarkDice) =>
  brn r1.fst (callD r_mark_Dice_Paper (cw f_mark_Dice_Paper [AV.loc 1000 2 0 0, I 0, I 1] [(1000, ⟨2, ty_mark_Dice, [nGmarkDice r1.snd], true⟩)]) fun (r2 : GPaper × GmarkDice) =>
   chk (1 = 1) <|
   chk ((1 + 1) * (40 + 1) ≤ 1099511627776) <|
   chk (2 = 2) <|
   k_mark_Dice_Papers_1004 r0 r2)
  (k_mark_Dice_Papers_1004v1 r0 r1)) = some y) : cw f_mark_Dice_Papers [AV.loc 1000 2 0 0] [(1000, ⟨2, ty_mark_Dice, [nGmarkDice a0], true⟩)] = some y :=
  callw_tree R_mark_Dice_Papers zT [4] rfl (by kernel_rfl) (by kernel_rfl) (by kernel_rfl) (by kernel_rfl) (by kernel_rfl) h

noncomputable def k_mark_Dice_Markers_1 (x1 : List (List AV)) (x2 : GmarkDice) (x3 : Int) (x4 : Int) : Option (AV × Mem) := pt R_mark_Dice_Markers 1 ⟨[(0, AV.loc 1000 2 0 0), (3, AV.row 3 5 0 (List.length x1)), (4, I x3), (5, I x4)], [(3, ⟨5, ty_api_Marker, x1, false⟩), (1000, ⟨2, ty_mark_Dice, [nGmarkDice x2], true⟩)]⟩

theorem t_mark_Dice_Markers_1 (x1 : List (List AV)) (x2 : GmarkDice) (x3 : Int) (x4 : Int) {y : AV × Mem} (h : (
  brn (decide (0 < x4)) (callD r_mark_Dice_Next (cw f_mark_Dice_Next [AV.loc 1000 2 0 0, I 3] [(1000, ⟨2, ty_mark_Dice, [nGmarkDice x2], true⟩)]) fun (r5 : Int × GmarkDice) =>
   callD r_mark_Dice_Pick (cw f_mark_Dice_Pick [AV.loc 1000 2 0 0, AV.sl 1 (List.map nI_i64 ([-1, -1, 1, 2, 3]))] [(1000, ⟨2, ty_mark_Dice, [nGmarkDice r5.snd], true⟩)]) fun (r6 : Int × GmarkDice) =>
   callD r_mark_Dice_Pick (cw f_mark_Dice_Pick [AV.loc 1000 2 0 0, AV.sl 1 (List.map nI_i64 ([1, 1, 1, 2, 3]))] [(1000, ⟨2, ty_mark_Dice, [nGmarkDice r6.snd], true⟩)]) fun (r7 : Int × GmarkDice) =>
   callD r_mark_Dice_Pick (cw f_mark_Dice_Pick [AV.loc 1000 2 0 0, AV.sl 1 (List.map nI_i64 ([3, 2, 6, 0, 1]))] [(1000, ⟨2, ty_mark_Dice, [nGmarkDice r7.snd], true⟩)]) fun (r8 : Int × GmarkDice) =>
   callD r_mark_Dice_Next (cw f_mark_Dice_Next [AV.loc 1000 2 0 0, I 4] [(1000, ⟨2, ty_mark_Dice, [nGmarkDice r8.snd], true⟩)]) fun (r9 : Int × GmarkDice) =>
   chk (0 ≤ r9.fst) <|
   elemD dL_I_i64 ([nL_I_i64 ([0, 1]), nL_I_i64 [0], nL_I_i64 [1], nL_I_i64 ([0, 1])]) (Int.toNat r9.fst) fun (c10 : List Int) =>
   chk (x1.length = x1.length) <|
   chk ((x1.length + 1) * (56 + 1) ≤ 1099511627776) <|
   chk ((x1 ++ [[AV.v (Go.Value.int IntKind.i64 (w64 (x3 + w64 (1 + r5.fst)))), AV.v (Go.Value.int IntKind.i64 r6.fst), AV.v (Go.Value.int IntKind.i64 r7.fst), AV.v (Go.Value.int IntKind.i64 r8.fst), AV.sl 1 (List.map nI_i64 c10)]]).length = (x1 ++ [[AV.v (Go.Value.int IntKind.i64 (w64 (x3 + w64 (1 + r5.fst)))), AV.v (Go.Value.int IntKind.i64 r6.fst), AV.v (Go.Value.int IntKind.i64 r7.fst), AV.v (Go.Value.int IntKind.i64 r8.fst), AV.sl 1 (List.map nI_i64 c10)]]).length) <|
   k_mark_Dice_Markers_1 (x1 ++ ([nGMarker (⟨w64 (x3 + w64 (1 + r5.fst)), r6.fst, r7.fst, r8.fst, c10⟩)])) r9.snd (w64 (x3 + w64 (1 + r5.fst))) (w64 (x4 - 1)))
  (chk (x1.length = x1.length) <|
   some (AV.new 5 ty_api_Marker x1, [(1000, ⟨2, ty_mark_Dice, [nGmarkDice x2], true⟩)]))) = some y) : k_mark_Dice_Markers_1 x1 x2 x3 x4 = some y :=
  pt_of zT [] (by kernel_rfl) h

theorem e_mark_Dice_Markers (a0 : GmarkDice) {y : AV × Mem} (h : (
  callD r_mark_Dice_Next (cw f_mark_Dice_Next [AV.loc 1000 2 0 0, I 4] [(1000, ⟨2, ty_mark_Dice, [nGmarkDice a0], true⟩)]) fun (r0 : Int × GmarkDice) =>
  k_mark_Dice_Markers_1 [] r0.snd 0 (w64 (2 + r0.fst))) = some y) : cw f_mark_Dice_Markers [AV.loc 1000 2 0 0] [(1000, ⟨2, ty_mark_Dice, [nGmarkDice a0], true⟩)] = some y :=
  callw_tree R_mark_Dice_Markers zT [] rfl (by kernel_rfl) (by kernel_rfl) (by kernel_rfl) (by kernel_rfl) (by kernel_rfl) h

noncomputable def k_mark_Dice_Scripts_1 (a1 : List GPaper) (a2 : Int) (x0 : List (List AV)) (x1 : GmarkDice) (x2 : Int) : Option (AV × Mem) := pt R_mark_Dice_Scripts 1 ⟨[(0, AV.loc 1000 2 0 0), (1, AV.sl 3 (List.map nGPaper a1)), (2, I a2), (7, AV.row 7 7 0 (List.length x0)), (8, I x2)], [(7, ⟨7, ty_api_Script, x0, false⟩), (1000, ⟨2, ty_mark_Dice, [nGmarkDice x1], true⟩)]⟩

noncomputable def k_mark_Dice_Scripts_2 (a1 : List GPaper) (a2 : Int) (x0 : List (List AV)) (x1 : GmarkDice) (x2 : Int) (x3 : List (List AV)) (x4 : Int) : Option (AV × Mem) := pt R_mark_Dice_Scripts 2 ⟨[(0, AV.loc 1000 2 0 0), (1, AV.sl 3 (List.map nGPaper a1)), (2, I a2), (7, AV.row 7 7 0 (List.length x0)), (8, I x2), (9, AV.row 9 3 0 (List.length x3)), (10, I x4)], [(7, ⟨7, ty_api_Script, x0, false⟩), (9, ⟨3, ty_api_Paper, x3, false⟩), (1000, ⟨2, ty_mark_Dice, [nGmarkDice x1], true⟩)]⟩

noncomputable def k_mark_Dice_Scripts_3 (a1 : List GPaper) (a2 : Int) (x2 : Int) (x3 : List (List AV)) (x7 : List (List AV)) (x8 : GmarkDice) (x9 : Int) : Option (AV × Mem) := pt R_mark_Dice_Scripts 3 ⟨[(0, AV.loc 1000 2 0 0), (1, AV.sl 3 (List.map nGPaper a1)), (2, I a2), (7, AV.row 7 7 0 (List.length x7)), (8, I x2), (9, AV.row 9 3 0 (List.length x3)), (11, I x9)], [(7, ⟨7, ty_api_Script, x7, false⟩), (9, ⟨3, ty_api_Paper, x3, false⟩), (1000, ⟨2, ty_mark_Dice, [nGmarkDice x8], true⟩)]⟩

theorem t_mark_Dice_Scripts_1 (a1 : List GPaper) (a2 : Int) (x0 : List (List AV)) (x1 : GmarkDice) (x2 : Int) {y : AV × Mem} (h : (
  brn (decide (x2 < 2)) (k_mark_Dice_Scripts_2 a1 a2 x0 x1 x2 [] 0)
  (chk (x0.length = x0.length) <|
   some (AV.new 7 ty_api_Script x0, [(1000, ⟨2, ty_mark_Dice, [nGmarkDice x1], true⟩)]))) = some y) : k_mark_Dice_Scripts_1 a1 a2 x0 x1 x2 = some y :=
  pt_of zT [] (by kernel_rfl) h

theorem t_mark_Dice_Scripts_2 (a1 : List GPaper) (a2 : Int) (x0 : List (List AV)) (x1 : GmarkDice) (x2 : Int) (x3 : List (List AV)) (x4 : Int) {y : AV × Mem} (h : (
  brn (decide (x4 < (↑(List.map nGPaper a1).length : Int))) (chk ((0 : Int) ≤ x4) <|
   elemD dGPaper (List.map nGPaper a1) x4.toNat fun (c5 : GPaper) =>
   brn (c5.Code == x2) (chk ((0 : Int) ≤ x4) <|
    elemD dGPaper (List.map nGPaper a1) x4.toNat fun (c6 : GPaper) =>
    chk (x3.length = x3.length) <|
    chk ((x3.length + 1) * (40 + 1) ≤ 1099511627776) <|
    chk ((x3 ++ [[AV.v (Go.Value.int IntKind.i64 c6.Code), AV.v (Go.Value.int IntKind.i64 c6.Variant), AV.sl 6 (List.map nGPart c6.Parts)]]).length = (x3 ++ [[AV.v (Go.Value.int IntKind.i64 c6.Code), AV.v (Go.Value.int IntKind.i64 c6.Variant), AV.sl 6 (List.map nGPart c6.Parts)]]).length) <|
    k_mark_Dice_Scripts_2 a1 a2 x0 x1 x2 (x3 ++ ([nGPaper c6])) (w64 (x4 + 1)))
   (k_mark_Dice_Scripts_2 a1 a2 x0 x1 x2 x3 (w64 (x4 + 1))))
  (k_mark_Dice_Scripts_3 a1 a2 x2 x3 x0 x1 1)) = some y) : k_mark_Dice_Scripts_2 a1 a2 x0 x1 x2 x3 x4 = some y :=
  pt_of zT [] (by kernel_rfl) h

theorem t_mark_Dice_Scripts_3 (a1 : List GPaper) (a2 : Int) (x2 : Int) (x3 : List (List AV)) (x7 : List (List AV)) (x8 : GmarkDice) (x9 : Int) {y : AV × Mem} (h : (
  brn (decide (x9 ≤ a2)) (brn (decide (0 < (↑x3.length : Int))) (callD r_mark_Dice_Next (cw f_mark_Dice_Next [AV.loc 1000 2 0 0, I 5] [(1000, ⟨2, ty_mark_Dice, [nGmarkDice x8], true⟩)]) fun (r10 : Int × GmarkDice) =>
    brn (decide (0 < r10.fst)) (callD r_mark_Dice_Next (cw f_mark_Dice_Next [AV.loc 1000 2 0 0, I (↑x3.length : Int)] [(1000, ⟨2, ty_mark_Dice, [nGmarkDice r10.snd], true⟩)]) fun (r11 : Int × GmarkDice) =>
     chk (0 ≤ r11.fst) <|
     chk ((r11.fst : Int) < (↑x3.length : Int)) <|
     elemD dGPaper x3 (0 + Int.toNat r11.fst) fun (c12 : GPaper) =>
     callD r_mark_Dice_Script (cw f_mark_Dice_Script [AV.loc 1000 2 0 0, AV.agg (nGPaper c12), I x9] [(1000, ⟨2, ty_mark_Dice, [nGmarkDice r11.snd], true⟩)]) fun (r13 : GScript × GmarkDice) =>
     chk (x7.length = x7.length) <|
     chk ((x7.length + 1) * (88 + 1) ≤ 1099511627776) <|
     chk ((x7 ++ [[AV.v (Go.Value.int IntKind.i64 r13.fst.Number), AV.v (Go.Value.int IntKind.i64 r13.fst.Paper), AV.v (Go.Value.int IntKind.i64 r13.fst.Candidate), AV.v (Go.Value.int IntKind.i64 r13.fst.Centre), AV.v (Go.Value.int IntKind.i64 r13.fst.Variant), AV.sl 1 (List.map nI_i64 r13.fst.Pages), AV.sl 1 (List.map nI_i64 r13.fst.Answers)]]).length = (x7 ++ [[AV.v (Go.Value.int IntKind.i64 r13.fst.Number), AV.v (Go.Value.int IntKind.i64 r13.fst.Paper), AV.v (Go.Value.int IntKind.i64 r13.fst.Candidate), AV.v (Go.Value.int IntKind.i64 r13.fst.Centre), AV.v (Go.Value.int IntKind.i64 r13.fst.Variant), AV.sl 1 (List.map nI_i64 r13.fst.Pages), AV.sl 1 (List.map nI_i64 r13.fst.Answers)]]).length) <|
     k_mark_Dice_Scripts_3 a1 a2 x2 x3 (x7 ++ ([nGScript r13.fst])) r13.snd (w64 (x9 + 1)))
    (k_mark_Dice_Scripts_3 a1 a2 x2 x3 x7 r10.snd (w64 (x9 + 1))))
   (k_mark_Dice_Scripts_1 a1 a2 x7 x8 (w64 (x2 + 1))))
  (k_mark_Dice_Scripts_1 a1 a2 x7 x8 (w64 (x2 + 1)))) = some y) : k_mark_Dice_Scripts_3 a1 a2 x2 x3 x7 x8 x9 = some y :=
  pt_of zT [] (by kernel_rfl) h

theorem e_mark_Dice_Scripts (a0 : GmarkDice) (a1 : List GPaper) (a2 : Int) {y : AV × Mem} (h : (
  k_mark_Dice_Scripts_1 a1 a2 [] a0 0) = some y) : cw f_mark_Dice_Scripts [AV.loc 1000 2 0 0, AV.sl 3 (List.map nGPaper a1), I a2] [(1000, ⟨2, ty_mark_Dice, [nGmarkDice a0], true⟩)] = some y :=
  callw_tree R_mark_Dice_Scripts zT [] rfl (by kernel_rfl) (by kernel_rfl) (by kernel_rfl) (by kernel_rfl) (by kernel_rfl) h

theorem e_mark_Dice_Monitor (a0 : GmarkDice) {y : AV × Mem} (h : (
  callD r_mark_Dice_Next (cw f_mark_Dice_Next [AV.loc 1000 2 0 0, I 3] [(1000, ⟨2, ty_mark_Dice, [nGmarkDice a0], true⟩)]) fun (r0 : Int × GmarkDice) =>
  callD r_mark_Dice_Next (cw f_mark_Dice_Next [AV.loc 1000 2 0 0, I 2] [(1000, ⟨2, ty_mark_Dice, [nGmarkDice r0.snd], true⟩)]) fun (r1 : Int × GmarkDice) =>
  callD r_mark_Dice_Next (cw f_mark_Dice_Next [AV.loc 1000 2 0 0, I 3] [(1000, ⟨2, ty_mark_Dice, [nGmarkDice r1.snd], true⟩)]) fun (r2 : Int × GmarkDice) =>
  callD r_mark_Dice_Next (cw f_mark_Dice_Next [AV.loc 1000 2 0 0, I (w64 (1 + r0.fst))] [(1000, ⟨2, ty_mark_Dice, [nGmarkDice r2.snd], true⟩)]) fun (r3 : Int × GmarkDice) =>
  some (AV.agg (nGMonitorRule (⟨r1.fst, r2.fst, w64 (1 + r0.fst), w64 (1 + r3.fst)⟩)), [(1000, ⟨2, ty_mark_Dice, [nGmarkDice r3.snd], true⟩)])) = some y) : cw f_mark_Dice_Monitor [AV.loc 1000 2 0 0] [(1000, ⟨2, ty_mark_Dice, [nGmarkDice a0], true⟩)] = some y :=
  callw_tree R_mark_Dice_Monitor zT [] rfl (by kernel_rfl) (by kernel_rfl) (by kernel_rfl) (by kernel_rfl) (by kernel_rfl) h

theorem e_mark_Dice_Bool (a0 : GmarkDice) (a1 : Int) {y : AV × Mem} (h : (
  callD r_mark_Dice_Next (cw f_mark_Dice_Next [AV.loc 1000 2 0 0, I a1] [(1000, ⟨2, ty_mark_Dice, [nGmarkDice a0], true⟩)]) fun (r0 : Int × GmarkDice) =>
  some (B (r0.fst == w64 (a1 - 1)), [(1000, ⟨2, ty_mark_Dice, [nGmarkDice r0.snd], true⟩)])) = some y) : cw f_mark_Dice_Bool [AV.loc 1000 2 0 0, I a1] [(1000, ⟨2, ty_mark_Dice, [nGmarkDice a0], true⟩)] = some y :=
  callw_tree R_mark_Dice_Bool zT [] rfl (by kernel_rfl) (by kernel_rfl) (by kernel_rfl) (by kernel_rfl) (by kernel_rfl) h

noncomputable def k_mark_Dice_Seed_1 (a2 : GScript) (r0 : GPaper) (x1 : List (List AV)) (x2 : GmarkDice) (x3 : Int) : Option (AV × Mem) := pt R_mark_Dice_Seed 1 ⟨[(0, AV.loc 1000 2 0 0), (6, AV.loc 6 2 0 0), (7, AV.loc 7 2 0 0), (8, AV.loc 8 3 0 0), (9, I x3)], [(6, ⟨2, ty_api_Seed, [[I 0, AV.v (.slice none 0 0)]], true⟩), (7, ⟨2, ty_api_Seed, [[I a2.Number, AV.row 900 1 0 (List.length x1)]], true⟩), (8, ⟨3, ty_api_Paper, [nGPaper r0], true⟩), (900, ⟨1, ty_i64_2, x1, false⟩), (1000, ⟨2, ty_mark_Dice, [nGmarkDice x2], true⟩)]⟩

theorem t_mark_Dice_Seed_1 (a2 : GScript) (r0 : GPaper) (x1 : List (List AV)) (x2 : GmarkDice) (x3 : Int) {y : AV × Mem} (h : (
  brn (decide (x3 < (↑(List.map nGPart r0.Parts).length : Int))) (chk ((0 : Int) ≤ x3) <|
   elemD dGPart (List.map nGPart r0.Parts) x3.toNat fun (c4 : GPart) =>
   callD r_mark_Dice_Next (cw f_mark_Dice_Next [AV.loc 1000 2 0 0, I (w64 (c4.Max + 1))] [(1000, ⟨2, ty_mark_Dice, [nGmarkDice x2], true⟩)]) fun (r5 : Int × GmarkDice) =>
   chk (x1.length = x1.length) <|
   chk ((x1.length + 1) * (8 + 1) ≤ 1099511627776) <|
   k_mark_Dice_Seed_1 a2 r0 (x1 ++ ([nI_i64 r5.fst])) r5.snd (w64 (x3 + 1)))
  (chk (0 + x1.length ≤ x1.length) <|
   some (AV.agg [I a2.Number, AV.sl 1 (List.take x1.length x1)], [(1000, ⟨2, ty_mark_Dice, [nGmarkDice x2], true⟩)]))) = some y) : k_mark_Dice_Seed_1 a2 r0 x1 x2 x3 = some y :=
  pt_of zT [] (by kernel_rfl) h

theorem e_mark_Dice_Seed (a0 : GmarkDice) (a1 : List GPaper) (a2 : GScript) {y : AV × Mem} (h : (
  callD r_mark_paper (cw f_mark_paper [AV.sl 3 (List.map nGPaper a1), AV.agg (nGScript a2)] []) fun (r0 : GPaper) =>
  k_mark_Dice_Seed_1 a2 r0 [] a0 0) = some y) : cw f_mark_Dice_Seed [AV.loc 1000 2 0 0, AV.sl 3 (List.map nGPaper a1), AV.agg (nGScript a2)] [(1000, ⟨2, ty_mark_Dice, [nGmarkDice a0], true⟩)] = some y :=
  callw_tree R_mark_Dice_Seed zT [] rfl (by kernel_rfl) (by kernel_rfl) (by kernel_rfl) (by kernel_rfl) (by kernel_rfl) h

noncomputable def k_ref29_Check_1 (a0 : GSetup) (x3 : Int) : Option (AV × Mem) := pt R_ref29_Check 1 ⟨[(1, AV.loc 1 9 0 0), (3, I x3)], [(1, ⟨9, ty_api_Setup, [nGSetup a0], true⟩)]⟩

noncomputable def k_ref29_Check_2 (a0 : GSetup) (x7 : Int) : Option (AV × Mem) := pt R_ref29_Check 2 ⟨[(1, AV.loc 1 9 0 0), (4, I x7)], [(1, ⟨9, ty_api_Setup, [nGSetup a0], true⟩)]⟩

noncomputable def k_ref29_Check_3 (a0 : GSetup) (x14 : Int) : Option (AV × Mem) := pt R_ref29_Check 3 ⟨[(1, AV.loc 1 9 0 0), (9, I x14)], [(1, ⟨9, ty_api_Setup, [nGSetup a0], true⟩)]⟩

theorem t_ref29_Check_1 (a0 : GSetup) (x3 : Int) {y : AV × Mem} (h : (
  brn (decide (x3 < (↑(List.map nGPaper a0.Papers).length : Int))) (chk ((0 : Int) ≤ x3) <|
   elemD dGPaper (List.map nGPaper a0.Papers) x3.toNat fun (c4 : GPaper) =>
   chk ((0 : Int) ≤ x3) <|
   elemD dGScheme (List.map nGScheme a0.Schemes) x3.toNat fun (c5 : GScheme) =>
   callD r_ref23_Valid (cw f_ref23_Valid [AV.agg (nGPaper c4), AV.agg (nGScheme c5)] []) fun (r6 : Bool) =>
   brn (!r6) (some (I 1, []))
   (k_ref29_Check_1 a0 (w64 (x3 + 1))))
  (k_ref29_Check_2 a0 0)) = some y) : k_ref29_Check_1 a0 x3 = some y :=
  pt_of zT [] (by kernel_rfl) h

theorem t_ref29_Check_2 (a0 : GSetup) (x7 : Int) {y : AV × Mem} (h : (
  brn (decide (x7 < (↑(List.map nGScript a0.Scripts).length : Int))) (chk ((0 : Int) ≤ x7) <|
   elemD dGScript (List.map nGScript a0.Scripts) x7.toNat fun (c8 : GScript) =>
   callD r_ref26_Paper (cw f_ref26_Paper [AV.sl 3 (List.map nGPaper a0.Papers), AV.agg (nGScript c8)] []) fun (r9 : Int × Bool) =>
   brn (!r9.snd) (some (I 1, []))
   (chk (0 ≤ r9.fst) <|
    elemD dGPaper (List.map nGPaper a0.Papers) (Int.toNat r9.fst) fun (c10 : GPaper) =>
    chk (0 ≤ r9.fst) <|
    elemD dGScheme (List.map nGScheme a0.Schemes) (Int.toNat r9.fst) fun (c11 : GScheme) =>
    chk ((0 : Int) ≤ x7) <|
    elemD dGScript (List.map nGScript a0.Scripts) x7.toNat fun (c12 : GScript) =>
    callD r_ref23_Closed (cw f_ref23_Closed [AV.agg (nGPaper c10), AV.agg (nGScheme c11), AV.sl 1 (List.map nI_i64 c12.Answers)] []) fun (r13 : (List Int) × Int) =>
    brn (r13.snd != 0) (some (I 1, []))
    (k_ref29_Check_2 a0 (w64 (x7 + 1)))))
  (k_ref29_Check_3 a0 0)) = some y) : k_ref29_Check_2 a0 x7 = some y :=
  pt_of zT [] (by kernel_rfl) h

theorem t_ref29_Check_3 (a0 : GSetup) (x14 : Int) {y : AV × Mem} (h : (
  brn (decide (x14 < (↑(List.map nGSeed a0.Seeds).length : Int))) (chk ((0 : Int) ≤ x14) <|
   elemD dGSeed (List.map nGSeed a0.Seeds) x14.toNat fun (c15 : GSeed) =>
   callD r_ref29_PaperOf (cw f_ref29_PaperOf [AV.agg (nGSetup a0), I c15.Script] []) fun (r16 : Int × Bool) =>
   brn (!r16.snd) (some (I 1, []))
   (chk (0 ≤ r16.fst) <|
    elemD dGPaper (List.map nGPaper a0.Papers) (Int.toNat r16.fst) fun (c17 : GPaper) =>
    chk ((0 : Int) ≤ x14) <|
    elemD dGSeed (List.map nGSeed a0.Seeds) x14.toNat fun (c18 : GSeed) =>
    callD r_ref26_Fits (cw f_ref26_Fits [AV.agg (nGPaper c17), AV.sl 1 (List.map nI_i64 c18.Marks)] []) fun (r19 : Bool) =>
    brn (!r19) (some (I 1, []))
    (brn (decide (0 < x14)) (chk ((0 : Int) ≤ x14) <|
      elemD dGSeed (List.map nGSeed a0.Seeds) x14.toNat fun (c20 : GSeed) =>
      chk ((0 : Int) ≤ (w64 (x14 - 1))) <|
      elemD dGSeed (List.map nGSeed a0.Seeds) ((w64 (x14 - 1)).toNat) fun (c21 : GSeed) =>
      brn (decide (c20.Script ≤ c21.Script)) (some (I 1, []))
      (k_ref29_Check_3 a0 (w64 (x14 + 1))))
     (k_ref29_Check_3 a0 (w64 (x14 + 1))))))
  (some (I 0, []))) = some y) : k_ref29_Check_3 a0 x14 = some y :=
  pt_of zT [] (by kernel_rfl) h

theorem e_ref29_Check (a0 : GSetup) {y : AV × Mem} (h : (
  callD r_ref24_Check (cw f_ref24_Check [AV.sl 5 (List.map nGMarker a0.Markers)] []) fun (r0 : Int) =>
  brn (r0 != 0) (some (I 1, []))
  (callD r_ref24_CheckScripts (cw f_ref24_CheckScripts [AV.sl 7 (List.map nGScript a0.Scripts)] []) fun (r1 : Int) =>
   brn (r1 != 0) (some (I 1, []))
   (brn ((↑(List.map nGScheme a0.Schemes).length : Int) != (↑(List.map nGPaper a0.Papers).length : Int)) (some (I 1, []))
    (brn (decide (32 < (↑(List.map nGPaper a0.Papers).length : Int))) (some (I 1, []))
     (brn (decide (12 < (↑(List.map nGSeed a0.Seeds).length : Int))) (some (I 1, []))
      (callD r_ref27_Check (cw f_ref27_Check [AV.agg (nGMonitorRule a0.Monitor)] []) fun (r2 : Int) =>
       brn (r2 != 0) (some (I 1, []))
       (k_ref29_Check_1 a0 0))))))) = some y) : cw f_ref29_Check [AV.agg (nGSetup a0)] [] = some y :=
  callw_tree R_ref29_Check zT [] rfl (by kernel_rfl) (by kernel_rfl) (by kernel_rfl) (by kernel_rfl) (by kernel_rfl) h

noncomputable def k_ref28_Canonical_1 (a0 : List GMarkEvent) (r0 : (List ((Int × Int) × Int)) × (List ((Int × Int) × Bool))) (x1 : List (List AV)) (x2 : Int) : Option (AV × Mem) := pt R_ref28_Canonical 1 ⟨[(0, AV.sl 9 (List.map nGMarkEvent a0)), (4, AV.mp (List.map nE_A2_I_i64_I_i64 r0.fst)), (5, AV.mp (List.map nE_A2_I_i64_Bool r0.snd)), (6, AV.row 6 9 0 (List.length x1)), (7, I x2)], [(6, ⟨9, ty_api_MarkEvent, x1, false⟩)]⟩

theorem t_ref28_Canonical_1 (a0 : List GMarkEvent) (r0 : (List ((Int × Int) × Int)) × (List ((Int × Int) × Bool))) (x1 : List (List AV)) (x2 : Int) {y : AV × Mem} (h : (
  brn (decide (x2 < (↑(List.map nGMarkEvent a0).length : Int))) (chk ((0 : Int) ≤ x2) <|
   elemD dGMarkEvent (List.map nGMarkEvent a0) x2.toNat fun (c3 : GMarkEvent) =>
   chk ((0 : Int) ≤ x2) <|
   elemD dGMarkEvent (List.map nGMarkEvent a0) x2.toNat fun (c4 : GMarkEvent) =>
   mapD zP 63 false dI_i64 (I 0) (List.map nE_A2_I_i64_I_i64 r0.fst) (AV.agg (nA2_I_i64 (c3.Stamp.Source, c4.Stamp.Seq))) fun (c5 : Int) (b6 : Bool) =>
   brn b6 (brn (c5 == x2) (mapD zP 63 false dBool (B false) (List.map nE_A2_I_i64_Bool r0.snd) (AV.agg (nA2_I_i64 (c3.Stamp.Source, c4.Stamp.Seq))) fun (c7 : Bool) (b8 : Bool) =>
     brn (!c7) (chk ((0 : Int) ≤ x2) <|
      elemD dGMarkEvent (List.map nGMarkEvent a0) x2.toNat fun (c9 : GMarkEvent) =>
      chk ((List.map nI_i64 c9.Pages).length * (8 + 1) ≤ 1099511627776) <|
      chk (0 + (List.map nI_i64 c9.Pages).length ≤ (List.map nI_i64 c9.Pages).length) <|
      chk (0 + (List.map nI_i64 c9.Pages).length ≤ (List.map nI_i64 c9.Pages).length) <|
      chk (x1.length = x1.length) <|
      chk ((x1.length + 1) * (88 + 1) ≤ 1099511627776) <|
      chk ((x1 ++ [[AV.v (Go.Value.int IntKind.i64 c9.Stamp.Time), AV.v (Go.Value.int IntKind.i64 c9.Stamp.Source), AV.v (Go.Value.int IntKind.i64 c9.Stamp.Seq), AV.v (Go.Value.int IntKind.i64 c9.Kind), AV.v (Go.Value.int IntKind.i64 c9.Script), AV.v (Go.Value.int IntKind.i64 c9.Part), AV.v (Go.Value.int IntKind.i64 c9.Value), AV.v (Go.Value.int IntKind.i64 c9.Marker), AV.sl 1 (List.take (List.map nI_i64 c9.Pages).length (List.map nI_i64 c9.Pages))]]).length = (x1 ++ [[AV.v (Go.Value.int IntKind.i64 c9.Stamp.Time), AV.v (Go.Value.int IntKind.i64 c9.Stamp.Source), AV.v (Go.Value.int IntKind.i64 c9.Stamp.Seq), AV.v (Go.Value.int IntKind.i64 c9.Kind), AV.v (Go.Value.int IntKind.i64 c9.Script), AV.v (Go.Value.int IntKind.i64 c9.Part), AV.v (Go.Value.int IntKind.i64 c9.Value), AV.v (Go.Value.int IntKind.i64 c9.Marker), AV.sl 1 (List.take (List.map nI_i64 c9.Pages).length (List.map nI_i64 c9.Pages))]]).length) <|
      k_ref28_Canonical_1 a0 r0 (x1 ++ ([[I c9.Stamp.Time, I c9.Stamp.Source, I c9.Stamp.Seq, I c9.Kind, I c9.Script, I c9.Part, I c9.Value, I c9.Marker, AV.sl 1 (List.take ((List.map nI_i64 c9.Pages).length) (List.map nI_i64 c9.Pages))]])) (w64 (x2 + 1)))
     (k_ref28_Canonical_1 a0 r0 x1 (w64 (x2 + 1))))
    (k_ref28_Canonical_1 a0 r0 x1 (w64 (x2 + 1))))
   (k_ref28_Canonical_1 a0 r0 x1 (w64 (x2 + 1))))
  (brn (decide (2000 < (↑x1.length : Int))) (some (AV.tup [AV.sl 9 (List.map nGMarkEvent []), I 3], []))
   (chk (0 + x1.length ≤ x1.length) <|
    callD r_ref28_Sort (cw f_ref28_Sort [AV.sl 9 (List.take x1.length x1)] []) fun (r10 : (List GMarkEvent)) =>
    chk (0 + x1.length ≤ x1.length) <|
    chk (0 + x1.length ≤ x1.length) <|
    chk (0 + (List.map nGMarkEvent r10).length ≤ (List.map nGMarkEvent r10).length) <|
    some (AV.tup [AV.sl 9 (List.take ((List.map nGMarkEvent r10).length) (List.map nGMarkEvent r10)), I 0], [])))) = some y) : k_ref28_Canonical_1 a0 r0 x1 x2 = some y :=
  pt_of zT [] (by kernel_rfl) h

theorem e_ref28_Canonical (a0 : List GMarkEvent) {y : AV × Mem} (h : (
  callD r_ref28_disputes (cw f_ref28_disputes [AV.sl 9 (List.map nGMarkEvent a0)] []) fun (r0 : (List ((Int × Int) × Int)) × (List ((Int × Int) × Bool))) =>
  k_ref28_Canonical_1 a0 r0 [] 0) = some y) : cw f_ref28_Canonical [AV.sl 9 (List.map nGMarkEvent a0)] [] = some y :=
  callw_tree R_ref28_Canonical zT [] rfl (by kernel_rfl) (by kernel_rfl) (by kernel_rfl) (by kernel_rfl) (by kernel_rfl) h

end Go.Proofs.YtdhibifcofaioaaGreat
