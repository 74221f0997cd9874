/- What the functions compute, between two cut points: printed by a program, checked by the kernel. -/
import Derived.Test.YtkmdeoejdlcjeaaAnn
namespace Go.Proofs.Ytkmdeoejdlcjeaa
open Go.Ab
set_option maxRecDepth 100000
set_option linter.unusedVariables false

noncomputable def k_law30_ArbitrationOrder_1 (a1 : Int) (r3 : GMarkRule × GmarkDice) (r4 : ((List GGiven)) × GmarkDice) (r5 : GVerdict) (x6 : List (List AV)) (x7 : Int) : Option (AV × Mem) := pt R_law30_ArbitrationOrder 1 ⟨[(1, .v (.int .u8 a1)), (6, .loc 6 2 0 0), (7, .row 21 8 0 (List.length (List.map dGGiven.enc r4.fst))), (8, .loc 8 2 0 0), (9, .row 9 8 0 (List.length x6)), (10, I x7)], [(9, ⟨8, ty_api_Given, x6, false⟩), (8, ⟨2, ty_api_Verdict, [dGVerdict.enc r5], true⟩), (6, ⟨2, ty_api_MarkRule, [dGMarkRule.enc r3.fst], true⟩), (21, ⟨8, ty_api_Given, List.map dGGiven.enc r4.fst, false⟩)]⟩

theorem t_law30_ArbitrationOrder_1 (a1 : Int) (r3 : GMarkRule × GmarkDice) (r4 : ((List GGiven)) × GmarkDice) (r5 : GVerdict) (x6 : List (List AV)) (x7 : Int) {y : AV × Mem} (h : (
  brn (decide (0 ≤ x7)) (chk ((0 : Int) ≤ x7) <|
   chk ((x7 : Int) < ((↑(List.map dGGiven.enc r4.fst).length : Int))) <|
   elemD dGGiven (List.map dGGiven.enc r4.fst) (0 + x7.toNat) fun (c8 : GGiven) =>
   chk (x6.length = x6.length) <|
   chk ((x6.length + 1) * (64 + 1) ≤ 1099511627776) <|
   chk ((x6 ++ [[AV.v (Go.Value.int IntKind.i64 c8.Script), AV.v (Go.Value.int IntKind.i64 c8.Part), AV.v (Go.Value.int IntKind.i64 (w64 (w64 a1 + w64 (3 * x7)))), AV.v (Go.Value.int IntKind.i64 c8.Level), AV.v (Go.Value.int IntKind.i64 c8.Value), AV.v (Go.Value.int IntKind.i64 c8.Stamp.Time), AV.v (Go.Value.int IntKind.i64 c8.Stamp.Source), AV.v (Go.Value.int IntKind.i64 c8.Stamp.Seq)]]).length = (x6 ++ [[AV.v (Go.Value.int IntKind.i64 c8.Script), AV.v (Go.Value.int IntKind.i64 c8.Part), AV.v (Go.Value.int IntKind.i64 (w64 (w64 a1 + w64 (3 * x7)))), AV.v (Go.Value.int IntKind.i64 c8.Level), AV.v (Go.Value.int IntKind.i64 c8.Value), AV.v (Go.Value.int IntKind.i64 c8.Stamp.Time), AV.v (Go.Value.int IntKind.i64 c8.Stamp.Source), AV.v (Go.Value.int IntKind.i64 c8.Stamp.Seq)]]).length) <|
   k_law30_ArbitrationOrder_1 a1 r3 r4 r5 (x6 ++ ([dGGiven.enc (⟨c8.Script, c8.Part, w64 (w64 a1 + w64 (3 * x7)), c8.Level, c8.Value, ⟨c8.Stamp.Time, c8.Stamp.Source, c8.Stamp.Seq⟩⟩)])) (w64 (x7 - 1)))
  (chk (0 + x6.length ≤ x6.length) <|
   callD r_arbitration_Decide (cw f_arbitration_Decide [.agg (dGMarkRule.enc r3.fst), .sl 8 (List.take x6.length x6)] []) fun (r9 : GVerdict) =>
   brn (r9.State == r5.State && (r9.Value == r5.Value && true)) (callD r_law30_sane (cw f_law30_sane [] []) fun (r10 : Bool) =>
    some (B r10, []))
   (some (B false, [])))) = some y) : k_law30_ArbitrationOrder_1 a1 r3 r4 r5 x6 x7 = some y :=
  pt_of zT [] (by kernel_rfl) h

theorem e_law30_ArbitrationOrder (a0 : List Int) (a1 : Int) {y : AV × Mem} (h : (
  callD r_mark_Light (cw f_mark_Light [.sl 1 (List.map dI_i64.enc a0)] []) fun (r0 : Bool) =>
  brn (!r0) (callD r_law30_sane (cw f_law30_sane [] []) fun (r1 : Bool) =>
   some (B r1, []))
  (callD r_mark_Roll (cw f_mark_Roll [.sl 1 (List.map dI_i64.enc a0)] []) fun (r2 : GmarkDice) =>
   callD r_mark_Dice_Rule (cw f_mark_Dice_Rule [.loc 1000 2 0 0] [(1000, ⟨2, ty_mark_Dice, [dGmarkDice.enc r2], true⟩)]) fun (r3 : GMarkRule × GmarkDice) =>
   callD r_law30_few (cw f_law30_few [.loc 1000 2 0 0] [(1000, ⟨2, ty_mark_Dice, [dGmarkDice.enc r3.snd], true⟩)]) fun (r4 : ((List GGiven)) × GmarkDice) =>
   chk (0 + (List.map dGGiven.enc r4.fst).length ≤ (List.map dGGiven.enc r4.fst).length) <|
   callD r_arbitration_Decide (cw f_arbitration_Decide [.agg (dGMarkRule.enc r3.fst), .sl 8 (List.take ((List.map dGGiven.enc r4.fst).length) (List.map dGGiven.enc r4.fst))] []) fun (r5 : GVerdict) =>
   k_law30_ArbitrationOrder_1 a1 r3 r4 r5 [] (w64 ((↑(List.map dGGiven.enc r4.fst).length : Int) - 1)))) = some y) : cw f_law30_ArbitrationOrder [.sl 1 (List.map dI_i64.enc a0), .v (.int .u8 a1)] [] = some y :=
  callw_tree R_law30_ArbitrationOrder zT [] (by kernel_rfl) (by kernel_rfl) (by kernel_rfl) (by kernel_rfl) (by kernel_rfl) h

noncomputable def k_law30_ArbitrationBetween_1 (r3 : GMarkRule × GmarkDice) (r4 : ((List GGiven)) × GmarkDice) (r5 : GVerdict) (x6 : Int) (x7 : Int) (x8 : Int) (x9 : Int) : Option (AV × Mem) := pt R_law30_ArbitrationBetween 1 ⟨[(4, .loc 4 2 0 0), (5, .row 24 8 0 (List.length (List.map dGGiven.enc r4.fst))), (6, .loc 6 2 0 0), (7, I x6), (8, I x7), (9, I x8), (28, .row 24 8 0 (List.length (List.map dGGiven.enc r4.fst))), (29, I ((↑(List.map dGGiven.enc r4.fst).length : Int))), (30, I x9)], [(6, ⟨2, ty_api_Verdict, [dGVerdict.enc r5], true⟩), (4, ⟨2, ty_api_MarkRule, [dGMarkRule.enc r3.fst], true⟩), (24, ⟨8, ty_api_Given, List.map dGGiven.enc r4.fst, false⟩)]⟩

noncomputable def k_law30_ArbitrationBetween_1016 (r3 : GMarkRule × GmarkDice) (r4 : ((List GGiven)) × GmarkDice) (r5 : GVerdict) (x6 : Int) (x7 : Int) (x8 : Int) : Option (AV × Mem) := pt R_law30_ArbitrationBetween 1016 ⟨[(4, .loc 4 2 0 0), (5, .row 24 8 0 (List.length (List.map dGGiven.enc r4.fst))), (6, .loc 6 2 0 0), (7, I x6), (8, I x7), (9, I x8), (88, B false)], [(6, ⟨2, ty_api_Verdict, [dGVerdict.enc r5], true⟩), (4, ⟨2, ty_api_MarkRule, [dGMarkRule.enc r3.fst], true⟩), (24, ⟨8, ty_api_Given, List.map dGGiven.enc r4.fst, false⟩)]⟩

noncomputable def k_law30_ArbitrationBetween_2 (r3 : GMarkRule × GmarkDice) (r4 : ((List GGiven)) × GmarkDice) (r5 : GVerdict) (x8 : Int) (x12 : List (List AV)) (x13 : Int) : Option (AV × Mem) := pt R_law30_ArbitrationBetween 2 ⟨[(4, .loc 4 2 0 0), (6, .loc 6 2 0 0), (9, I x8), (12, .row 12 8 0 (List.length x12)), (91, .row 24 8 0 (List.length (List.map dGGiven.enc r4.fst))), (92, I ((↑(List.map dGGiven.enc r4.fst).length : Int))), (93, I x13)], [(12, ⟨8, ty_api_Given, x12, false⟩), (6, ⟨2, ty_api_Verdict, [dGVerdict.enc r5], true⟩), (4, ⟨2, ty_api_MarkRule, [dGMarkRule.enc r3.fst], true⟩), (24, ⟨8, ty_api_Given, List.map dGGiven.enc r4.fst, false⟩)]⟩

theorem t_law30_ArbitrationBetween_1 (r3 : GMarkRule × GmarkDice) (r4 : ((List GGiven)) × GmarkDice) (r5 : GVerdict) (x6 : Int) (x7 : Int) (x8 : Int) (x9 : Int) {y : AV × Mem} (h : (
  brn (decide (x9 < (↑(List.map dGGiven.enc r4.fst).length : Int))) (chk ((0 : Int) ≤ x9) <|
   chk ((x9 : Int) < ((↑(List.map dGGiven.enc r4.fst).length : Int))) <|
   elemD dGGiven (List.map dGGiven.enc r4.fst) (0 + x9.toNat) fun (c10 : GGiven) =>
   k_law30_ArbitrationBetween_1 r3 r4 r5 (if (if 0 > c10.Value then 0 else c10.Value) < x6 then if 0 > c10.Value then 0 else c10.Value else x6) (if (if 0 > c10.Value then 0 else c10.Value) > x7 then if 0 > c10.Value then 0 else c10.Value else x7) (if c10.Level > x8 then c10.Level else x8) (w64 (x9 + 1)))
  (brn (r5.State != 3) (brn (r5.Value == 0) (brn (decide (x8 < 2)) (callD r_law30_sane (cw f_law30_sane [] []) fun (r11 : Bool) =>
      some (B r11, []))
     (some (B false, [])))
    (some (B false, [])))
   (brn (decide (r5.Value < x6)) (some (B false, []))
    (brn (decide (x7 < r5.Value)) (some (B false, []))
     (brn (decide (x8 < 2)) (brn (decide (1 < (↑(List.map dGGiven.enc r4.fst).length : Int))) (brn (decide (r3.fst.Tolerance < w64 (x7 - x6))) (some (B false, []))
        (k_law30_ArbitrationBetween_1016 r3 r4 r5 x6 x7 x8))
       (k_law30_ArbitrationBetween_1016 r3 r4 r5 x6 x7 x8))
      (k_law30_ArbitrationBetween_1016 r3 r4 r5 x6 x7 x8)))))) = some y) : k_law30_ArbitrationBetween_1 r3 r4 r5 x6 x7 x8 x9 = some y :=
  pt_of zT [16] (by kernel_rfl) h

theorem t_law30_ArbitrationBetween_1016 (r3 : GMarkRule × GmarkDice) (r4 : ((List GGiven)) × GmarkDice) (r5 : GVerdict) (x6 : Int) (x7 : Int) (x8 : Int) {y : AV × Mem} (h : (
  brn (decide (1 < x8)) (k_law30_ArbitrationBetween_2 r3 r4 r5 x8 [] 0)
  (brn (decide (1 < (↑(List.map dGGiven.enc r4.fst).length : Int))) (brn (decide (w64 (w64 (w64 (2 * r5.Value) - x6) - x7) ≤ w64 (r3.fst.Tolerance + 1))) (callD r_law30_sane (cw f_law30_sane [] []) fun (r14 : Bool) =>
     some (B r14, []))
    (some (B false, [])))
   (brn (!r3.fst.Double) (brn (decide (w64 (w64 (w64 (2 * r5.Value) - x6) - x7) ≤ w64 (r3.fst.Tolerance + 1))) (callD r_law30_sane (cw f_law30_sane [] []) fun (r15 : Bool) =>
      some (B r15, []))
     (some (B false, [])))
    (some (B false, []))))) = some y) : k_law30_ArbitrationBetween_1016 r3 r4 r5 x6 x7 x8 = some y :=
  pt_of zT [16] (by kernel_rfl) h

theorem t_law30_ArbitrationBetween_2 (r3 : GMarkRule × GmarkDice) (r4 : ((List GGiven)) × GmarkDice) (r5 : GVerdict) (x8 : Int) (x12 : List (List AV)) (x13 : Int) {y : AV × Mem} (h : (
  brn (decide (x13 < (↑(List.map dGGiven.enc r4.fst).length : Int))) (chk ((0 : Int) ≤ x13) <|
   chk ((x13 : Int) < ((↑(List.map dGGiven.enc r4.fst).length : Int))) <|
   elemD dGGiven (List.map dGGiven.enc r4.fst) (0 + x13.toNat) fun (c16 : GGiven) =>
   brn (c16.Level == x8) (chk (x12.length = x12.length) <|
    chk ((x12.length + 1) * (64 + 1) ≤ 1099511627776) <|
    chk ((x12 ++ [[AV.v (Go.Value.int IntKind.i64 c16.Script), AV.v (Go.Value.int IntKind.i64 c16.Part), AV.v (Go.Value.int IntKind.i64 c16.Marker), AV.v (Go.Value.int IntKind.i64 c16.Level), AV.v (Go.Value.int IntKind.i64 c16.Value), AV.v (Go.Value.int IntKind.i64 c16.Stamp.Time), AV.v (Go.Value.int IntKind.i64 c16.Stamp.Source), AV.v (Go.Value.int IntKind.i64 c16.Stamp.Seq)]]).length = (x12 ++ [[AV.v (Go.Value.int IntKind.i64 c16.Script), AV.v (Go.Value.int IntKind.i64 c16.Part), AV.v (Go.Value.int IntKind.i64 c16.Marker), AV.v (Go.Value.int IntKind.i64 c16.Level), AV.v (Go.Value.int IntKind.i64 c16.Value), AV.v (Go.Value.int IntKind.i64 c16.Stamp.Time), AV.v (Go.Value.int IntKind.i64 c16.Stamp.Source), AV.v (Go.Value.int IntKind.i64 c16.Stamp.Seq)]]).length) <|
    k_law30_ArbitrationBetween_2 r3 r4 r5 x8 (x12 ++ ([dGGiven.enc c16])) (w64 (x13 + 1)))
   (k_law30_ArbitrationBetween_2 r3 r4 r5 x8 x12 (w64 (x13 + 1))))
  (chk (0 + x12.length ≤ x12.length) <|
   callD r_arbitration_Decide (cw f_arbitration_Decide [.agg (dGMarkRule.enc r3.fst), .sl 8 (List.take x12.length x12)] []) fun (r17 : GVerdict) =>
   brn (r17.State == r5.State && (r17.Value == r5.Value && true)) (callD r_law30_sane (cw f_law30_sane [] []) fun (r18 : Bool) =>
    some (B r18, []))
   (some (B false, [])))) = some y) : k_law30_ArbitrationBetween_2 r3 r4 r5 x8 x12 x13 = some y :=
  pt_of zT [16] (by kernel_rfl) h

theorem e_law30_ArbitrationBetween (a0 : List Int) {y : AV × Mem} (h : (
  callD r_mark_Light (cw f_mark_Light [.sl 1 (List.map dI_i64.enc a0)] []) fun (r0 : Bool) =>
  brn (!r0) (callD r_law30_sane (cw f_law30_sane [] []) fun (r1 : Bool) =>
   some (B r1, []))
  (callD r_mark_Roll (cw f_mark_Roll [.sl 1 (List.map dI_i64.enc a0)] []) fun (r2 : GmarkDice) =>
   callD r_mark_Dice_Rule (cw f_mark_Dice_Rule [.loc 1000 2 0 0] [(1000, ⟨2, ty_mark_Dice, [dGmarkDice.enc r2], true⟩)]) fun (r3 : GMarkRule × GmarkDice) =>
   callD r_law30_few (cw f_law30_few [.loc 1000 2 0 0] [(1000, ⟨2, ty_mark_Dice, [dGmarkDice.enc r3.snd], true⟩)]) fun (r4 : ((List GGiven)) × GmarkDice) =>
   chk (0 + (List.map dGGiven.enc r4.fst).length ≤ (List.map dGGiven.enc r4.fst).length) <|
   callD r_arbitration_Decide (cw f_arbitration_Decide [.agg (dGMarkRule.enc r3.fst), .sl 8 (List.take ((List.map dGGiven.enc r4.fst).length) (List.map dGGiven.enc r4.fst))] []) fun (r5 : GVerdict) =>
   k_law30_ArbitrationBetween_1 r3 r4 r5 99 (-1) 0 0)) = some y) : cw f_law30_ArbitrationBetween [.sl 1 (List.map dI_i64.enc a0)] [] = some y :=
  callw_tree R_law30_ArbitrationBetween zT [16] (by kernel_rfl) (by kernel_rfl) (by kernel_rfl) (by kernel_rfl) (by kernel_rfl) h

theorem e_law30_ArbitrationRises (a0 : List Int) (a1 : Int) (a2 : Int) {y : AV × Mem} (h : (
  callD r_mark_Light (cw f_mark_Light [.sl 1 (List.map dI_i64.enc a0)] []) fun (r0 : Bool) =>
  brn (!r0) (callD r_law30_sane (cw f_law30_sane [] []) fun (r1 : Bool) =>
   some (B r1, []))
  (callD r_mark_Roll (cw f_mark_Roll [.sl 1 (List.map dI_i64.enc a0)] []) fun (r2 : GmarkDice) =>
   callD r_mark_Dice_Rule (cw f_mark_Dice_Rule [.loc 1000 2 0 0] [(1000, ⟨2, ty_mark_Dice, [dGmarkDice.enc r2], true⟩)]) fun (r3 : GMarkRule × GmarkDice) =>
   callD r_law30_few (cw f_law30_few [.loc 1000 2 0 0] [(1000, ⟨2, ty_mark_Dice, [dGmarkDice.enc r3.snd], true⟩)]) fun (r4 : ((List GGiven)) × GmarkDice) =>
   brn ((↑(List.map dGGiven.enc r4.fst).length : Int) == 0) (callD r_law30_sane (cw f_law30_sane [] []) fun (r5 : Bool) =>
    some (B r5, []))
   (chk (0 + (List.map dGGiven.enc r4.fst).length ≤ (List.map dGGiven.enc r4.fst).length) <|
    chk ((List.take (List.map dGGiven.enc r4.fst).length (List.map dGGiven.enc r4.fst)).length * (64 + 1) ≤ 1099511627776) <|
    chk ((List.take (List.map dGGiven.enc r4.fst).length (List.map dGGiven.enc r4.fst)).length = (List.take (List.map dGGiven.enc r4.fst).length (List.map dGGiven.enc r4.fst)).length) <|
    chk (((↑(List.map dGGiven.enc r4.fst).length : Int) : Int) ≠ 0) <|
    chk ((0 : Int) ≤ ((w64 a1).tmod (↑(List.map dGGiven.enc r4.fst).length : Int))) <|
    chk (((w64 a1).tmod (↑(List.map dGGiven.enc r4.fst).length : Int) : Int) < ((↑(List.take (List.map dGGiven.enc r4.fst).length (List.map dGGiven.enc r4.fst)).length : Int))) <|
    elemD dGGiven (List.take ((List.map dGGiven.enc r4.fst).length) (List.map dGGiven.enc r4.fst)) (0 + ((w64 a1).tmod (↑(List.map dGGiven.enc r4.fst).length : Int)).toNat) fun (c6 : GGiven) =>
    chk ((5 : Int) ≠ 0) <|
    chk ((0 : Int) ≤ ((w64 a1).tmod (↑(List.map dGGiven.enc r4.fst).length : Int))) <|
    chk (((w64 a1).tmod (↑(List.map dGGiven.enc r4.fst).length : Int) : Int) < ((↑(List.take (List.map dGGiven.enc r4.fst).length (List.map dGGiven.enc r4.fst)).length : Int))) <|
    elemD dGGiven (List.take ((List.map dGGiven.enc r4.fst).length) (List.map dGGiven.enc r4.fst)) (0 + ((w64 a1).tmod (↑(List.map dGGiven.enc r4.fst).length : Int)).toNat) fun (c7 : GGiven) =>
    chk (0 + (List.map dGGiven.enc r4.fst).length ≤ (List.map dGGiven.enc r4.fst).length) <|
    callD r_arbitration_Decide (cw f_arbitration_Decide [.agg (dGMarkRule.enc r3.fst), .sl 8 (List.take ((List.map dGGiven.enc r4.fst).length) (List.map dGGiven.enc r4.fst))] []) fun (r8 : GVerdict) =>
    chk (0 + (List.take (List.map dGGiven.enc r4.fst).length (List.map dGGiven.enc r4.fst)).length ≤ ((List.take (List.map dGGiven.enc r4.fst).length (List.map dGGiven.enc r4.fst)).set (0 + ((w64 a1).tmod (↑(List.map dGGiven.enc r4.fst).length : Int)).toNat) [AV.v (Go.Value.int IntKind.i64 c7.Script), AV.v (Go.Value.int IntKind.i64 c7.Part), AV.v (Go.Value.int IntKind.i64 c7.Marker), AV.v (Go.Value.int IntKind.i64 c7.Level), AV.v (Go.Value.int IntKind.i64 (w64 (c6.Value + w64 (a2.tmod 5)))), AV.v (Go.Value.int IntKind.i64 c7.Stamp.Time), AV.v (Go.Value.int IntKind.i64 c7.Stamp.Source), AV.v (Go.Value.int IntKind.i64 c7.Stamp.Seq)]).length) <|
    callD r_arbitration_Decide (cw f_arbitration_Decide [.agg (dGMarkRule.enc r3.fst), .sl 8 (List.take ((List.take (List.map dGGiven.enc r4.fst).length (List.map dGGiven.enc r4.fst)).length) (List.set (List.take ((List.map dGGiven.enc r4.fst).length) (List.map dGGiven.enc r4.fst)) (0 + ((w64 a1).tmod (↑(List.map dGGiven.enc r4.fst).length : Int)).toNat) (dGGiven.enc (⟨c7.Script, c7.Part, c7.Marker, c7.Level, w64 (c6.Value + w64 (a2.tmod 5)), ⟨c7.Stamp.Time, c7.Stamp.Source, c7.Stamp.Seq⟩⟩))))] []) fun (r9 : GVerdict) =>
    brn (r8.State != 3) (callD r_law30_sane (cw f_law30_sane [] []) fun (r10 : Bool) =>
     some (B r10, []))
    (brn (r9.State != 3) (callD r_law30_sane (cw f_law30_sane [] []) fun (r11 : Bool) =>
      some (B r11, []))
     (brn (decide (r8.Value ≤ r9.Value)) (callD r_law30_sane (cw f_law30_sane [] []) fun (r12 : Bool) =>
       some (B r12, []))
      (some (B false, []))))))) = some y) : cw f_law30_ArbitrationRises [.sl 1 (List.map dI_i64.enc a0), .v (.int .u8 a1), .v (.int .u8 a2)] [] = some y :=
  callw_tree R_law30_ArbitrationRises zT [] (by kernel_rfl) (by kernel_rfl) (by kernel_rfl) (by kernel_rfl) (by kernel_rfl) h

theorem e_mark_Light (a0 : List Int) {y : AV × Mem} (h : (
  some (B (decide ((↑(List.map dI_i64.enc a0).length : Int) ≤ 600)), [])) = some y) : cw f_mark_Light [.sl 1 (List.map dI_i64.enc a0)] [] = some y :=
  callw_tree R_mark_Light zT [] (by kernel_rfl) (by kernel_rfl) (by kernel_rfl) (by kernel_rfl) (by kernel_rfl) h

theorem e_law30_sane {y : AV × Mem} (h : (
  callD r_arbitration_Decide (cw f_arbitration_Decide [.agg (dGMarkRule.enc (⟨true, 2⟩)), .sl 8 (List.map dGGiven.enc ([⟨0, 0, 0, 1, 5, ⟨0, 0, 0⟩⟩, ⟨0, 0, 0, 1, 6, ⟨0, 0, 0⟩⟩]))] []) fun (r0 : GVerdict) =>
  callD r_arbitration_Decide (cw f_arbitration_Decide [.agg (dGMarkRule.enc (⟨true, 2⟩)), .sl 8 (List.map dGGiven.enc ([⟨0, 0, 0, 1, 3, ⟨0, 0, 0⟩⟩, ⟨0, 0, 0, 1, 6, ⟨0, 0, 0⟩⟩]))] []) fun (r1 : GVerdict) =>
  callD r_arbitration_Decide (cw f_arbitration_Decide [.agg (dGMarkRule.enc (⟨true, 2⟩)), .sl 8 (List.map dGGiven.enc ([⟨0, 0, 0, 1, 7, ⟨0, 0, 0⟩⟩, ⟨0, 0, 0, 2, 4, ⟨0, 0, 0⟩⟩, ⟨0, 0, 0, 1, 7, ⟨0, 0, 0⟩⟩]))] []) fun (r2 : GVerdict) =>
  callD r_arbitration_Decide (cw f_arbitration_Decide [.agg (dGMarkRule.enc (⟨true, 2⟩)), .sl 8 (List.map dGGiven.enc ([⟨0, 0, 0, 1, 7, ⟨0, 0, 0⟩⟩]))] []) fun (r3 : GVerdict) =>
  brn (r0.State == 3 && (r0.Value == 6 && true)) (brn (r1.State == 2 && (r1.Value == 0 && true)) (brn (r2.State == 3 && (r2.Value == 4 && true)) (brn (r3.State == 1 && (r3.Value == 0 && true)) (callD r_arbitration_Decide (cw f_arbitration_Decide [.agg (dGMarkRule.enc (⟨true, 2⟩)), .sl 8 (List.map dGGiven.enc [])] []) fun (r4 : GVerdict) =>
      brn (r4.State == 0 && (r4.Value == 0 && true)) (callD r_arbitration_Check (cw f_arbitration_Check [.agg (dGMarkRule.enc (⟨true, 2⟩))] []) fun (r5 : Int) =>
       some (B (r5 == 0), []))
      (some (B false, [])))
     (some (B false, [])))
    (some (B false, [])))
   (some (B false, [])))
  (some (B false, []))) = some y) : cw f_law30_sane [] [] = some y :=
  callw_tree R_law30_sane zT [] (by kernel_rfl) (by kernel_rfl) (by kernel_rfl) (by kernel_rfl) (by kernel_rfl) h

theorem e_mark_Roll (a0 : List Int) {y : AV × Mem} (h : (
  some (.newp 2 ty_mark_Dice (dGmarkDice.enc (⟨a0, 0⟩)), [])) = some y) : cw f_mark_Roll [.sl 1 (List.map dI_i64.enc a0)] [] = some y :=
  callw_tree R_mark_Roll zT [] (by kernel_rfl) (by kernel_rfl) (by kernel_rfl) (by kernel_rfl) (by kernel_rfl) h

theorem e_mark_Dice_Rule (a0 : GmarkDice) {y : AV × Mem} (h : (
  callD r_mark_Dice_Bool (cw f_mark_Dice_Bool [.loc 1000 2 0 0, I 2] [(1000, ⟨2, ty_mark_Dice, [dGmarkDice.enc a0], true⟩)]) fun (r0 : Bool × GmarkDice) =>
  callD r_mark_Dice_Next (cw f_mark_Dice_Next [.loc 1000 2 0 0, I 3] [(1000, ⟨2, ty_mark_Dice, [dGmarkDice.enc r0.snd], true⟩)]) fun (r1 : Int × GmarkDice) =>
  some (.agg (dGMarkRule.enc (⟨r0.fst, r1.fst⟩)), [(1000, ⟨2, ty_mark_Dice, [dGmarkDice.enc r1.snd], true⟩)])) = some y) : cw f_mark_Dice_Rule [.loc 1000 2 0 0] [(1000, ⟨2, ty_mark_Dice, [dGmarkDice.enc a0], true⟩)] = some y :=
  callw_tree R_mark_Dice_Rule zT [] (by kernel_rfl) (by kernel_rfl) (by kernel_rfl) (by kernel_rfl) (by kernel_rfl) h

noncomputable def k_law30_few_1 (x1 : List (List AV)) (x2 : GmarkDice) (x3 : Int) : Option (AV × Mem) := pt R_law30_few 1 ⟨[(0, .loc 1000 2 0 0), (3, .row 3 8 0 (List.length x1)), (4, I x3)], [(3, ⟨8, ty_api_Given, x1, false⟩), (1000, ⟨2, ty_mark_Dice, [dGmarkDice.enc x2], true⟩)]⟩

theorem t_law30_few_1 (x1 : List (List AV)) (x2 : GmarkDice) (x3 : Int) {y : AV × Mem} (h : (
  brn (decide (0 < x3)) (callD r_mark_Dice_Pick (cw f_mark_Dice_Pick [.loc 1000 2 0 0, .sl 1 (List.map dI_i64.enc ([1, 1, 1, 2, 3]))] [(1000, ⟨2, ty_mark_Dice, [dGmarkDice.enc x2], true⟩)]) fun (r4 : Int × GmarkDice) =>
   callD r_mark_Dice_Next (cw f_mark_Dice_Next [.loc 1000 2 0 0, I 8] [(1000, ⟨2, ty_mark_Dice, [dGmarkDice.enc r4.snd], true⟩)]) fun (r5 : Int × GmarkDice) =>
   callD r_mark_Dice_Next (cw f_mark_Dice_Next [.loc 1000 2 0 0, I 9] [(1000, ⟨2, ty_mark_Dice, [dGmarkDice.enc r5.snd], true⟩)]) fun (r6 : Int × GmarkDice) =>
   chk (x1.length = x1.length) <|
   chk ((x1.length + 1) * (64 + 1) ≤ 1099511627776) <|
   chk ((x1 ++ [[AV.v (Go.Value.int IntKind.i64 0), AV.v (Go.Value.int IntKind.i64 0), AV.v (Go.Value.int IntKind.i64 (w64 (10 - x3))), AV.v (Go.Value.int IntKind.i64 r4.fst), AV.v (Go.Value.int IntKind.i64 (w64 (r5.fst - 1))), AV.v (Go.Value.int IntKind.i64 r6.fst), AV.v (Go.Value.int IntKind.i64 (w64 (10 - x3))), AV.v (Go.Value.int IntKind.i64 x3)]]).length = (x1 ++ [[AV.v (Go.Value.int IntKind.i64 0), AV.v (Go.Value.int IntKind.i64 0), AV.v (Go.Value.int IntKind.i64 (w64 (10 - x3))), AV.v (Go.Value.int IntKind.i64 r4.fst), AV.v (Go.Value.int IntKind.i64 (w64 (r5.fst - 1))), AV.v (Go.Value.int IntKind.i64 r6.fst), AV.v (Go.Value.int IntKind.i64 (w64 (10 - x3))), AV.v (Go.Value.int IntKind.i64 x3)]]).length) <|
   k_law30_few_1 (x1 ++ ([dGGiven.enc (⟨0, 0, w64 (10 - x3), r4.fst, w64 (r5.fst - 1), ⟨r6.fst, w64 (10 - x3), x3⟩⟩)])) r6.snd (w64 (x3 - 1)))
  (chk (x1.length = x1.length) <|
   some (.new 8 ty_api_Given x1, [(1000, ⟨2, ty_mark_Dice, [dGmarkDice.enc x2], true⟩)]))) = some y) : k_law30_few_1 x1 x2 x3 = some y :=
  pt_of zT [] (by kernel_rfl) h

theorem e_law30_few (a0 : GmarkDice) {y : AV × Mem} (h : (
  callD r_mark_Dice_Next (cw f_mark_Dice_Next [.loc 1000 2 0 0, I 5] [(1000, ⟨2, ty_mark_Dice, [dGmarkDice.enc a0], true⟩)]) fun (r0 : Int × GmarkDice) =>
  k_law30_few_1 [] r0.snd r0.fst) = some y) : cw f_law30_few [.loc 1000 2 0 0] [(1000, ⟨2, ty_mark_Dice, [dGmarkDice.enc a0], true⟩)] = some y :=
  callw_tree R_law30_few zT [] (by kernel_rfl) (by kernel_rfl) (by kernel_rfl) (by kernel_rfl) (by kernel_rfl) h

noncomputable def k_arbitration_Decide_1 (a0 : GMarkRule) (a1 : List GGiven) (x8 : Int) (x9 : Int) (x10 : Int) : Option (AV × Mem) := pt R_arbitration_Decide 1 ⟨[(1, .sl 8 (List.map dGGiven.enc a1)), (2, .loc 2 2 0 0), (4, .loc 4 2 0 0), (7, I x8), (8, I x9), (43, .sl 8 (List.map dGGiven.enc a1)), (44, I ((↑(List.map dGGiven.enc a1).length : Int))), (45, I x10)], [(4, ⟨2, ty_api_Verdict, [dGVerdict.enc (⟨0, 0⟩)], true⟩), (2, ⟨2, ty_api_MarkRule, [dGMarkRule.enc a0], true⟩)]⟩

theorem t_arbitration_Decide_1 (a0 : GMarkRule) (a1 : List GGiven) (x8 : Int) (x9 : Int) (x10 : Int) {y : AV × Mem} (h : (
  brn (decide (x10 < (↑(List.map dGGiven.enc a1).length : Int))) (chk ((0 : Int) ≤ x10) <|
   elemD dGGiven (List.map dGGiven.enc a1) x10.toNat fun (c11 : GGiven) =>
   callD r_arbitration_worth (cw f_arbitration_worth [.agg (dGGiven.enc c11)] []) fun (r12 : Int) =>
   callD r_arbitration_worth (cw f_arbitration_worth [.agg (dGGiven.enc c11)] []) fun (r13 : Int) =>
   k_arbitration_Decide_1 a0 a1 (if r12 < x8 then r12 else x8) (if r13 > x9 then r13 else x9) (w64 (x10 + 1)))
  (brn (decide (a0.Tolerance < w64 (x9 - x8))) (some (.agg (dGVerdict.enc (⟨2, 0⟩)), []))
   (callD r_arbitration_mean (cw f_arbitration_mean [.sl 8 (List.map dGGiven.enc a1)] []) fun (r14 : Int) =>
    some (.agg (dGVerdict.enc (⟨3, r14⟩)), [])))) = some y) : k_arbitration_Decide_1 a0 a1 x8 x9 x10 = some y :=
  pt_of zT [] (by kernel_rfl) h

theorem e_arbitration_Decide (a0 : GMarkRule) (a1 : List GGiven) {y : AV × Mem} (h : (
  callD r_arbitration_decisive (cw f_arbitration_decisive [.sl 8 (List.map dGGiven.enc a1)] []) fun (r0 : GGiven × Bool) =>
  brn r0.snd (callD r_arbitration_worth (cw f_arbitration_worth [.agg (dGGiven.enc r0.fst)] []) fun (r1 : Int) =>
   some (.agg (dGVerdict.enc (⟨3, r1⟩)), []))
  (brn ((↑(List.map dGGiven.enc a1).length : Int) == 0) (some (.agg (dGVerdict.enc (⟨0, 0⟩)), []))
   (brn ((↑(List.map dGGiven.enc a1).length : Int) == 1) (brn a0.Double (some (.agg (dGVerdict.enc (⟨1, 0⟩)), []))
     (chk ((0 : Int) ≤ 0) <|
      elemD dGGiven (List.map dGGiven.enc a1) (Int.toNat 0) fun (c2 : GGiven) =>
      callD r_arbitration_worth (cw f_arbitration_worth [.agg (dGGiven.enc c2)] []) fun (r3 : Int) =>
      some (.agg (dGVerdict.enc (⟨3, r3⟩)), [])))
    (chk ((0 : Int) ≤ 0) <|
     elemD dGGiven (List.map dGGiven.enc a1) (Int.toNat 0) fun (c4 : GGiven) =>
     callD r_arbitration_worth (cw f_arbitration_worth [.agg (dGGiven.enc c4)] []) fun (r5 : Int) =>
     chk ((0 : Int) ≤ 0) <|
     elemD dGGiven (List.map dGGiven.enc a1) (Int.toNat 0) fun (c6 : GGiven) =>
     callD r_arbitration_worth (cw f_arbitration_worth [.agg (dGGiven.enc c6)] []) fun (r7 : Int) =>
     k_arbitration_Decide_1 a0 a1 r5 r7 0)))) = some y) : cw f_arbitration_Decide [.agg (dGMarkRule.enc a0), .sl 8 (List.map dGGiven.enc a1)] [] = some y :=
  callw_tree R_arbitration_Decide zT [] (by kernel_rfl) (by kernel_rfl) (by kernel_rfl) (by kernel_rfl) (by kernel_rfl) h

theorem e_arbitration_Check (a0 : GMarkRule) {y : AV × Mem} (h : (
  brn (decide (a0.Tolerance < 0)) (some (I 2, []))
  (brn (decide (40 < a0.Tolerance)) (some (I 2, []))
   (some (I 0, [])))) = some y) : cw f_arbitration_Check [.agg (dGMarkRule.enc a0)] [] = some y :=
  callw_tree R_arbitration_Check zT [] (by kernel_rfl) (by kernel_rfl) (by kernel_rfl) (by kernel_rfl) (by kernel_rfl) h

theorem e_mark_Dice_Bool (a0 : GmarkDice) (a1 : Int) {y : AV × Mem} (h : (
  callD r_mark_Dice_Next (cw f_mark_Dice_Next [.loc 1000 2 0 0, I a1] [(1000, ⟨2, ty_mark_Dice, [dGmarkDice.enc a0], true⟩)]) fun (r0 : Int × GmarkDice) =>
  some (B (r0.fst == w64 (a1 - 1)), [(1000, ⟨2, ty_mark_Dice, [dGmarkDice.enc r0.snd], true⟩)])) = some y) : cw f_mark_Dice_Bool [.loc 1000 2 0 0, I a1] [(1000, ⟨2, ty_mark_Dice, [dGmarkDice.enc a0], true⟩)] = some y :=
  callw_tree R_mark_Dice_Bool zT [] (by kernel_rfl) (by kernel_rfl) (by kernel_rfl) (by kernel_rfl) (by kernel_rfl) h

theorem e_mark_Dice_Next (a0 : GmarkDice) (a1 : Int) {y : AV × Mem} (h : (
  brn (decide ((↑(List.map dI_i64.enc a0.L).length : Int) ≤ a0.At)) (some (I 0, [(1000, ⟨2, ty_mark_Dice, [dGmarkDice.enc a0], true⟩)]))
  (brn (decide (a1 < 1)) (some (I 0, [(1000, ⟨2, ty_mark_Dice, [dGmarkDice.enc a0], true⟩)]))
   (chk ((0 : Int) ≤ a0.At) <|
    elemD dI_i64 (List.map dI_i64.enc a0.L) a0.At.toNat fun (c0 : Int) =>
    chk ((a1 : Int) ≠ 0) <|
    brn (decide (Int.tmod c0 a1 < 0)) (some (I (w64 (Int.tmod c0 a1 + a1)), [(1000, ⟨2, ty_mark_Dice, [dGmarkDice.enc (⟨a0.L, w64 (a0.At + 1)⟩)], true⟩)]))
    (some (I (Int.tmod c0 a1), [(1000, ⟨2, ty_mark_Dice, [dGmarkDice.enc (⟨a0.L, w64 (a0.At + 1)⟩)], true⟩)]))))) = some y) : cw f_mark_Dice_Next [.loc 1000 2 0 0, I a1] [(1000, ⟨2, ty_mark_Dice, [dGmarkDice.enc a0], true⟩)] = some y :=
  callw_tree R_mark_Dice_Next zT [] (by kernel_rfl) (by kernel_rfl) (by kernel_rfl) (by kernel_rfl) (by kernel_rfl) h

theorem e_mark_Dice_Pick (a0 : GmarkDice) (a1 : List Int) {y : AV × Mem} (h : (
  callD r_mark_Dice_Next (cw f_mark_Dice_Next [.loc 1000 2 0 0, I ((↑(List.map dI_i64.enc a1).length : Int))] [(1000, ⟨2, ty_mark_Dice, [dGmarkDice.enc a0], true⟩)]) fun (r0 : Int × GmarkDice) =>
  chk (0 ≤ r0.fst) <|
  elemD dI_i64 (List.map dI_i64.enc a1) (Int.toNat r0.fst) fun (c1 : Int) =>
  some (I c1, [(1000, ⟨2, ty_mark_Dice, [dGmarkDice.enc r0.snd], true⟩)])) = some y) : cw f_mark_Dice_Pick [.loc 1000 2 0 0, .sl 1 (List.map dI_i64.enc a1)] [(1000, ⟨2, ty_mark_Dice, [dGmarkDice.enc a0], true⟩)] = some y :=
  callw_tree R_mark_Dice_Pick zT [] (by kernel_rfl) (by kernel_rfl) (by kernel_rfl) (by kernel_rfl) (by kernel_rfl) h

noncomputable def k_arbitration_decisive_1 (a0 : List GGiven) (x0 : GGiven) (x1 : Bool) (x2 : Int) : Option (AV × Mem) := pt R_arbitration_decisive 1 ⟨[(2, .loc 2 8 0 0), (4, .loc 4 8 0 0), (5, B x1), (8, .sl 8 (List.map dGGiven.enc a0)), (9, I ((↑(List.map dGGiven.enc a0).length : Int))), (10, I x2)], [(4, ⟨8, ty_api_Given, [dGGiven.enc x0], true⟩), (2, ⟨8, ty_api_Given, [dGGiven.enc (⟨0, 0, 0, 0, 0, ⟨0, 0, 0⟩⟩)], true⟩)]⟩

theorem t_arbitration_decisive_1 (a0 : List GGiven) (x0 : GGiven) (x1 : Bool) (x2 : Int) {y : AV × Mem} (h : (
  brn (decide (x2 < (↑(List.map dGGiven.enc a0).length : Int))) (chk ((0 : Int) ≤ x2) <|
   elemD dGGiven (List.map dGGiven.enc a0) x2.toNat fun (c3 : GGiven) =>
   brn (decide (c3.Level < 2)) (k_arbitration_decisive_1 a0 x0 x1 (w64 (x2 + 1)))
   (brn (!x1) (k_arbitration_decisive_1 a0 c3 true (w64 (x2 + 1)))
    (brn (decide (x0.Level < c3.Level)) (k_arbitration_decisive_1 a0 c3 true (w64 (x2 + 1)))
     (brn (c3.Level == x0.Level) (callD r_stamp_Compare (cw f_stamp_Compare [.agg (dGStamp.enc c3.Stamp), .agg (dGStamp.enc x0.Stamp)] []) fun (r4 : Int) =>
       brn (decide (0 ≤ r4)) (k_arbitration_decisive_1 a0 c3 true (w64 (x2 + 1)))
       (k_arbitration_decisive_1 a0 x0 x1 (w64 (x2 + 1))))
      (k_arbitration_decisive_1 a0 x0 x1 (w64 (x2 + 1)))))))
  (some (.tup [.agg (dGGiven.enc x0), B x1], []))) = some y) : k_arbitration_decisive_1 a0 x0 x1 x2 = some y :=
  pt_of zT [] (by kernel_rfl) h

theorem e_arbitration_decisive (a0 : List GGiven) {y : AV × Mem} (h : (
  k_arbitration_decisive_1 a0 (⟨0, 0, 0, 0, 0, ⟨0, 0, 0⟩⟩) false 0) = some y) : cw f_arbitration_decisive [.sl 8 (List.map dGGiven.enc a0)] [] = some y :=
  callw_tree R_arbitration_decisive zT [] (by kernel_rfl) (by kernel_rfl) (by kernel_rfl) (by kernel_rfl) (by kernel_rfl) h

theorem e_arbitration_worth (a0 : GGiven) {y : AV × Mem} (h : (
  some (I (if 0 > a0.Value then 0 else a0.Value), [])) = some y) : cw f_arbitration_worth [.agg (dGGiven.enc a0)] [] = some y :=
  callw_tree R_arbitration_worth zT [] (by kernel_rfl) (by kernel_rfl) (by kernel_rfl) (by kernel_rfl) (by kernel_rfl) h

noncomputable def k_arbitration_mean_1 (a0 : List GGiven) (x0 : Int) (x1 : Int) (x2 : Int) : Option (AV × Mem) := pt R_arbitration_mean 1 ⟨[(0, .sl 8 (List.map dGGiven.enc a0)), (3, .v (.int .u64 x0)), (4, .v (.int .u64 x1)), (11, .sl 8 (List.map dGGiven.enc a0)), (12, I ((↑(List.map dGGiven.enc a0).length : Int))), (13, I x2)], []⟩

theorem t_arbitration_mean_1 (a0 : List GGiven) (x0 : Int) (x1 : Int) (x2 : Int) {y : AV × Mem} (h : (
  brn (decide (x2 < (↑(List.map dGGiven.enc a0).length : Int))) (chk ((0 : Int) ≤ x2) <|
   elemD dGGiven (List.map dGGiven.enc a0) x2.toNat fun (c3 : GGiven) =>
   callD r_arbitration_worth (cw f_arbitration_worth [.agg (dGGiven.enc c3)] []) fun (r4 : Int) =>
   k_arbitration_mean_1 a0 (wu64 (x0 + Int.ofNat ((x1.toNat + (wu64 r4).toNat + Int.toNat 0) / 2 ^ 64))) (Int.ofNat ((x1.toNat + (wu64 r4).toNat + Int.toNat 0) % 2 ^ 64)) (w64 (x2 + 1)))
  (callD r_bits_Div64 (cw f_bits_Div64 [.v (.int .u64 x0), .v (.int .u64 x1), .v (.int .u64 (wu64 (↑(List.map dGGiven.enc a0).length : Int)))] []) fun (r5 : Int × Int) =>
   brn (decide (wu64 (↑(List.map dGGiven.enc a0).length : Int) ≤ wu64 (2 * r5.snd))) (some (I (w64 (wu64 (r5.fst + 1))), []))
   (some (I (w64 r5.fst), [])))) = some y) : k_arbitration_mean_1 a0 x0 x1 x2 = some y :=
  pt_of zT [] (by kernel_rfl) h

theorem e_arbitration_mean (a0 : List GGiven) {y : AV × Mem} (h : (
  k_arbitration_mean_1 a0 0 0 0) = some y) : cw f_arbitration_mean [.sl 8 (List.map dGGiven.enc a0)] [] = some y :=
  callw_tree R_arbitration_mean zT [] (by kernel_rfl) (by kernel_rfl) (by kernel_rfl) (by kernel_rfl) (by kernel_rfl) h

theorem e_stamp_Compare (a0 : GStamp) (a1 : GStamp) {y : AV × Mem} (h : (
  callD r_cmp_Compare_int (cw f_cmp_Compare_int [I a0.Time, I a1.Time] []) fun (r0 : Int) =>
  callD r_cmp_Compare_int (cw f_cmp_Compare_int [I a0.Source, I a1.Source] []) fun (r1 : Int) =>
  callD r_cmp_Compare_int (cw f_cmp_Compare_int [I a0.Seq, I a1.Seq] []) fun (r2 : Int) =>
  callD r_cmp_Or_int (cw f_cmp_Or_int [.sl 1 (List.map dI_i64.enc ([r0, r1, r2]))] []) fun (r3 : Int) =>
  some (I r3, [])) = some y) : cw f_stamp_Compare [.agg (dGStamp.enc a0), .agg (dGStamp.enc a1)] [] = some y :=
  callw_tree R_stamp_Compare zT [] (by kernel_rfl) (by kernel_rfl) (by kernel_rfl) (by kernel_rfl) (by kernel_rfl) h

theorem e_bits_Div64 (a1 : Int) (a2 : Int) {y : AV × Mem} (h : (
  brn (a2 == 0) (none)
  (brn (decide (a2 ≤ 0)) (none)
   (chk ((a2 : Int) ≠ 0) <|
    chk ((a2 : Int) ≠ 0) <|
    some (.tup [.v (.int .u64 (wu64 (a1.tdiv a2))), .v (.int .u64 (a1.tmod a2))], [])))) = some y) : cw f_bits_Div64 [.v (.int .u64 0), .v (.int .u64 a1), .v (.int .u64 a2)] [] = some y :=
  callw_tree R_bits_Div64 zT [] (by kernel_rfl) (by kernel_rfl) (by kernel_rfl) (by kernel_rfl) (by kernel_rfl) h

noncomputable def k_cmp_Or_int_1 (a0 : List Int) (x0 : Int) : Option (AV × Mem) := pt R_cmp_Or_int 1 ⟨[(3, I 0), (6, .sl 1 (List.map dI_i64.enc a0)), (7, I ((↑(List.map dI_i64.enc a0).length : Int))), (8, I x0)], []⟩

theorem t_cmp_Or_int_1 (a0 : List Int) (x0 : Int) {y : AV × Mem} (h : (
  brn (decide (x0 < (↑(List.map dI_i64.enc a0).length : Int))) (chk ((0 : Int) ≤ x0) <|
   elemD dI_i64 (List.map dI_i64.enc a0) x0.toNat fun (c1 : Int) =>
   brn (c1 != 0) (some (I c1, []))
   (k_cmp_Or_int_1 a0 (w64 (x0 + 1))))
  (some (I 0, []))) = some y) : k_cmp_Or_int_1 a0 x0 = some y :=
  pt_of zT [] (by kernel_rfl) h

theorem e_cmp_Or_int (a0 : List Int) {y : AV × Mem} (h : (
  k_cmp_Or_int_1 a0 0) = some y) : cw f_cmp_Or_int [.sl 1 (List.map dI_i64.enc a0)] [] = some y :=
  callw_tree R_cmp_Or_int zT [] (by kernel_rfl) (by kernel_rfl) (by kernel_rfl) (by kernel_rfl) (by kernel_rfl) h

theorem e_cmp_Compare_int (a0 : Int) (a1 : Int) {y : AV × Mem} (h : (
  callD r_cmp_isNaN_int (cw f_cmp_isNaN_int [I a0] []) fun (r0 : Bool) =>
  callD r_cmp_isNaN_int (cw f_cmp_isNaN_int [I a1] []) fun (r1 : Bool) =>
  brn r0 (brn r1 (some (I 0, []))
   (some (I (-1), [])))
  (brn r1 (some (I 1, []))
   (brn (decide (a0 < a1)) (some (I (-1), []))
    (brn (decide (a1 < a0)) (some (I 1, []))
     (some (I 0, [])))))) = some y) : cw f_cmp_Compare_int [I a0, I a1] [] = some y :=
  callw_tree R_cmp_Compare_int zT [] (by kernel_rfl) (by kernel_rfl) (by kernel_rfl) (by kernel_rfl) (by kernel_rfl) h

theorem e_cmp_isNaN_int (a0 : Int) {y : AV × Mem} (h : (
  some (B (a0 != a0), [])) = some y) : cw f_cmp_isNaN_int [I a0] [] = some y :=
  callw_tree R_cmp_isNaN_int zT [] (by kernel_rfl) (by kernel_rfl) (by kernel_rfl) (by kernel_rfl) (by kernel_rfl) h

end Go.Proofs.Ytkmdeoejdlcjeaa
