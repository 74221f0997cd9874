/- What the functions compute, between two cut points: printed by a program, checked by the kernel. -/
import Derived.Test.YtapkemilafogjaaAnn
namespace Go.Proofs.Ytapkemilafogjaa
open Go.Ab
set_option maxRecDepth 100000
set_option linter.unusedVariables false

theorem e_law34_EquatingSelf (a0 : List Int) (a1 : Int) {y : AV × Mem} (h : (
  callD r_mark_Light (cw f_mark_Light [.sl 1 (List.map dI_i64.enc a0)] []) fun (r0 : Bool) =>
  brn (!r0) (callD r_law34_sane (cw f_law34_sane [] []) fun (r1 : Bool) =>
   some (B r1, []))
  (callD r_mark_Roll (cw f_mark_Roll [.sl 1 (List.map dI_i64.enc a0)] []) fun (r2 : GmarkDice) =>
   callD r_mark_Dice_Distribution (cw f_mark_Dice_Distribution [.loc 1000 2 0 0, I 6, B true] [(1000, ⟨2, ty_mark_Dice, [dGmarkDice.enc r2], true⟩)]) fun (r3 : GDistribution × GmarkDice) =>
   callD r_mark_Dice_Distribution (cw f_mark_Dice_Distribution [.loc 1000 2 0 0, I 6, B true] [(1000, ⟨2, ty_mark_Dice, [dGmarkDice.enc r3.snd], true⟩)]) fun (r4 : GDistribution × GmarkDice) =>
   chk ((3 : Int) ≠ 0) <|
   callD r_law34_whole (cw f_law34_whole [I 1] []) fun (r5 : GRatio) =>
   callD r_law34_whole (cw f_law34_whole [I 0] []) fun (r6 : GRatio) =>
   callD r_conversion_Line (cw f_conversion_Line [.agg (dGRatio.enc r5), .agg (dGRatio.enc r6)] []) fun (r7 : GCurve × Int) =>
   callD r_equating_Equate (cw f_equating_Equate [I (w64 (a1.tmod 3)), .agg (dGDistribution.enc r3.fst), .agg (dGDistribution.enc r3.fst)] []) fun (r8 : GCurve × Int) =>
   callD r_equating_Chain (cw f_equating_Chain [.agg (dGDistribution.enc r3.fst), .agg (dGDistribution.enc r4.fst), .agg (dGDistribution.enc r4.fst), .agg (dGDistribution.enc r3.fst), I (w64 (a1.tmod 3))] []) fun (r9 : GCurve × Int) =>
   brn (r7.snd != 0) (brn (w64 (a1.tmod 3) == 1) (brn (r7.snd == 0) (callD r_law34_sane (cw f_law34_sane [] []) fun (r10 : Bool) =>
      some (B r10, []))
     (some (B false, [])))
    (some (B false, [])))
   (brn (r8.snd == 10) (brn (w64 (a1.tmod 3) == 1) (brn (r7.snd == 0) (callD r_law34_sane (cw f_law34_sane [] []) fun (r11 : Bool) =>
       some (B r11, []))
      (some (B false, [])))
     (some (B false, [])))
    (brn (r8.snd == 0) (callD r_conversion_Same (cw f_conversion_Same [.agg (dGCurve.enc r8.fst), .agg (dGCurve.enc r7.fst)] []) fun (r12 : Bool) =>
      brn r12 (brn (r9.snd == 10) (callD r_law34_sane (cw f_law34_sane [] []) fun (r13 : Bool) =>
        some (B r13, []))
       (brn (r9.snd == 0) (callD r_conversion_Same (cw f_conversion_Same [.agg (dGCurve.enc r9.fst), .agg (dGCurve.enc r7.fst)] []) fun (r14 : Bool) =>
         brn r14 (callD r_law34_sane (cw f_law34_sane [] []) fun (r15 : Bool) =>
          some (B r15, []))
         (some (B false, [])))
        (some (B false, []))))
      (some (B false, [])))
     (some (B false, [])))))) = some y) : cw f_law34_EquatingSelf [.sl 1 (List.map dI_i64.enc a0), .v (.int .u8 a1)] [] = some y :=
  callw_tree R_law34_EquatingSelf zT [] (by kernel_rfl) (by kernel_rfl) (by kernel_rfl) (by kernel_rfl) (by kernel_rfl) h

theorem e_mark_Light (a0 : List Int) {y : AV × Mem} (h : (
  some (B (decide ((↑(List.map dI_i64.enc a0).length : Int) ≤ 600)), [])) = some y) : cw f_mark_Light [.sl 1 (List.map dI_i64.enc a0)] [] = some y :=
  callw_tree R_mark_Light zT [] (by kernel_rfl) (by kernel_rfl) (by kernel_rfl) (by kernel_rfl) (by kernel_rfl) h

theorem e_law34_sane {y : AV × Mem} (h : (
  callD r_equating_Percentile (cw f_equating_Percentile [.agg (dGDistribution.enc (⟨[1, 1]⟩)), .agg (dGDistribution.enc (⟨[1, 1, 1, 1]⟩))] []) fun (r0 : GCurve × Int) =>
  callD r_law34_whole (cw f_law34_whole [I 0] []) fun (r1 : GRatio) =>
  callD r_conversion_Eval (cw f_conversion_Eval [.agg (dGCurve.enc r0.fst), .agg (dGRatio.enc r1)] []) fun (r2 : GRatio × Int) =>
  callD r_equating_Mean (cw f_equating_Mean [.agg (dGDistribution.enc (⟨[1, 1]⟩)), .agg (dGDistribution.enc (⟨[1, 1, 1, 1]⟩))] []) fun (r3 : GCurve × Int) =>
  callD r_law34_whole (cw f_law34_whole [I 5] []) fun (r4 : GRatio) =>
  callD r_conversion_Eval (cw f_conversion_Eval [.agg (dGCurve.enc r3.fst), .agg (dGRatio.enc r4)] []) fun (r5 : GRatio × Int) =>
  brn (r0.snd == 0) (brn (r2.snd == 0) (brn (r3.snd == 0) (brn (r5.snd == 0) (brn (r2.fst.Num == 1 && (r2.fst.Den == 2 && true)) (callD r_law34_whole (cw f_law34_whole [I 6] []) fun (r6 : GRatio) =>
       some (B (r5.fst.Num == r6.Num && (r5.fst.Den == r6.Den && true)), []))
      (some (B false, [])))
     (some (B false, [])))
    (some (B false, [])))
   (some (B false, [])))
  (some (B false, []))) = some y) : cw f_law34_sane [] [] = some y :=
  callw_tree R_law34_sane zT [] (by kernel_rfl) (by kernel_rfl) (by kernel_rfl) (by kernel_rfl) (by kernel_rfl) h

theorem e_mark_Roll (a0 : List Int) {y : AV × Mem} (h : (
  some (.newp 2 ty_mark_Dice (dGmarkDice.enc (⟨a0, 0⟩)), [])) = some y) : cw f_mark_Roll [.sl 1 (List.map dI_i64.enc a0)] [] = some y :=
  callw_tree R_mark_Roll zT [] (by kernel_rfl) (by kernel_rfl) (by kernel_rfl) (by kernel_rfl) (by kernel_rfl) h

noncomputable def k_mark_Dice_Distribution_1 (x1 : List (List AV)) (x2 : GmarkDice) (x3 : Int) (x4 : Int) : Option (AV × Mem) := pt R_mark_Dice_Distribution 1 ⟨[(0, .loc 1000 2 0 0), (6, .loc 6 1 0 0), (7, .loc 7 1 0 0), (8, I x3), (9, I x4)], [(6, ⟨1, ty_api_Distribution, [[.v (.slice none 0 0)]], true⟩), (7, ⟨1, ty_api_Distribution, [[.row 900 1 0 (List.length x1)]], true⟩), (900, ⟨1, ty_i64_2, x1, false⟩), (1000, ⟨2, ty_mark_Dice, [dGmarkDice.enc x2], true⟩)]⟩

theorem t_mark_Dice_Distribution_1 (x1 : List (List AV)) (x2 : GmarkDice) (x3 : Int) (x4 : Int) {y : AV × Mem} (h : (
  brn (decide (0 < x4)) (callD r_mark_Dice_Pick (cw f_mark_Dice_Pick [.loc 1000 2 0 0, .sl 1 (List.map dI_i64.enc ([0, 1, 2, 5, 0]))] [(1000, ⟨2, ty_mark_Dice, [dGmarkDice.enc x2], true⟩)]) fun (r6 : Int × GmarkDice) =>
   chk (x1.length = x1.length) <|
   chk ((x1.length + 1) * (8 + 1) ≤ 1099511627776) <|
   k_mark_Dice_Distribution_1 (x1 ++ ([dI_i64.enc (w64 (x3 + r6.fst))])) r6.snd x3 (w64 (x4 - 1)))
  (chk (0 + x1.length ≤ x1.length) <|
   some (.agg [.sl 1 (List.take x1.length x1)], [(1000, ⟨2, ty_mark_Dice, [dGmarkDice.enc x2], true⟩)]))) = some y) : k_mark_Dice_Distribution_1 x1 x2 x3 x4 = some y :=
  pt_of zT [] (by kernel_rfl) h

theorem e_mark_Dice_Distribution (a0 : GmarkDice) (a1 : Int) (a2 : Bool) {y : AV × Mem} (h : (
  brn a2 (callD r_mark_Dice_Next (cw f_mark_Dice_Next [.loc 1000 2 0 0, I (w64 (a1 + 1))] [(1000, ⟨2, ty_mark_Dice, [dGmarkDice.enc a0], true⟩)]) fun (r0 : Int × GmarkDice) =>
   k_mark_Dice_Distribution_1 [] r0.snd 1 (w64 (1 + r0.fst)))
  (callD r_mark_Dice_Next (cw f_mark_Dice_Next [.loc 1000 2 0 0, I (w64 (a1 + 1))] [(1000, ⟨2, ty_mark_Dice, [dGmarkDice.enc a0], true⟩)]) fun (r5 : Int × GmarkDice) =>
   k_mark_Dice_Distribution_1 [] r5.snd 0 (w64 (1 + r5.fst)))) = some y) : cw f_mark_Dice_Distribution [.loc 1000 2 0 0, I a1, B a2] [(1000, ⟨2, ty_mark_Dice, [dGmarkDice.enc a0], true⟩)] = some y :=
  callw_tree R_mark_Dice_Distribution zT [] (by kernel_rfl) (by kernel_rfl) (by kernel_rfl) (by kernel_rfl) (by kernel_rfl) h

theorem e_conversion_Line (a0 : GRatio) (a1 : GRatio) {y : AV × Mem} (h : (
  callD r_ratio_Valid (cw f_ratio_Valid [.agg (dGRatio.enc a0)] []) fun (r0 : Bool) =>
  brn (!r0) (some (.tup [.agg (dGCurve.enc ⟨[]⟩), I 1], []))
  (callD r_ratio_Valid (cw f_ratio_Valid [.agg (dGRatio.enc a1)] []) fun (r1 : Bool) =>
   brn (!r1) (some (.tup [.agg (dGCurve.enc ⟨[]⟩), I 1], []))
   (brn (decide (a0.Num ≤ 0)) (some (.tup [.agg (dGCurve.enc ⟨[]⟩), I 2], []))
    (callD r_ratio_Add (cw f_ratio_Add [.agg (dGRatio.enc a0), .agg (dGRatio.enc a1)] []) fun (r2 : GRatio × Int) =>
     brn (r2.snd != 0) (some (.tup [.agg (dGCurve.enc ⟨[]⟩), I r2.snd], []))
     (callD r_conversion_whole (cw f_conversion_whole [I 0] []) fun (r3 : GRatio) =>
      callD r_conversion_whole (cw f_conversion_whole [I 1] []) fun (r4 : GRatio) =>
      some (.tup [.agg (dGCurve.enc (⟨[⟨⟨r3.Num, r3.Den⟩, ⟨a1.Num, a1.Den⟩⟩, ⟨⟨r4.Num, r4.Den⟩, ⟨r2.fst.Num, r2.fst.Den⟩⟩]⟩)), I 0], [])))))) = some y) : cw f_conversion_Line [.agg (dGRatio.enc a0), .agg (dGRatio.enc a1)] [] = some y :=
  callw_tree R_conversion_Line zT [] (by kernel_rfl) (by kernel_rfl) (by kernel_rfl) (by kernel_rfl) (by kernel_rfl) h

theorem e_law34_whole (a0 : Int) {y : AV × Mem} (h : (
  some (.agg (dGRatio.enc (⟨a0, 1⟩)), [])) = some y) : cw f_law34_whole [I a0] [] = some y :=
  callw_tree R_law34_whole zT [] (by kernel_rfl) (by kernel_rfl) (by kernel_rfl) (by kernel_rfl) (by kernel_rfl) h

theorem e_equating_Equate (a0 : Int) (a1 : GDistribution) (a2 : GDistribution) {y : AV × Mem} (h : (
  brn (a0 == 0) (callD r_equating_Mean (cw f_equating_Mean [.agg (dGDistribution.enc a1), .agg (dGDistribution.enc a2)] []) fun (r0 : GCurve × Int) =>
   some (.tup [.agg (dGCurve.enc r0.fst), I r0.snd], []))
  (brn (a0 == 1) (callD r_equating_Linear (cw f_equating_Linear [.agg (dGDistribution.enc a1), .agg (dGDistribution.enc a2)] []) fun (r1 : GCurve × Int) =>
    some (.tup [.agg (dGCurve.enc r1.fst), I r1.snd], []))
   (brn (a0 == 2) (callD r_equating_Percentile (cw f_equating_Percentile [.agg (dGDistribution.enc a1), .agg (dGDistribution.enc a2)] []) fun (r2 : GCurve × Int) =>
     some (.tup [.agg (dGCurve.enc r2.fst), I r2.snd], []))
    (some (.tup [.agg (dGCurve.enc ⟨[]⟩), I 2], []))))) = some y) : cw f_equating_Equate [I a0, .agg (dGDistribution.enc a1), .agg (dGDistribution.enc a2)] [] = some y :=
  callw_tree R_equating_Equate zT [] (by kernel_rfl) (by kernel_rfl) (by kernel_rfl) (by kernel_rfl) (by kernel_rfl) h

theorem e_equating_Chain (a0 : GDistribution) (a1 : GDistribution) (a2 : GDistribution) (a3 : GDistribution) (a4 : Int) {y : AV × Mem} (h : (
  callD r_equating_Equate (cw f_equating_Equate [I a4, .agg (dGDistribution.enc a0), .agg (dGDistribution.enc a1)] []) fun (r0 : GCurve × Int) =>
  brn (r0.snd != 0) (some (.tup [.agg (dGCurve.enc ⟨[]⟩), I r0.snd], []))
  (callD r_equating_Equate (cw f_equating_Equate [I a4, .agg (dGDistribution.enc a2), .agg (dGDistribution.enc a3)] []) fun (r1 : GCurve × Int) =>
   brn (r1.snd != 0) (some (.tup [.agg (dGCurve.enc ⟨[]⟩), I r1.snd], []))
   (callD r_conversion_Compose (cw f_conversion_Compose [.agg (dGCurve.enc r0.fst), .agg (dGCurve.enc r1.fst)] []) fun (r2 : GCurve × Int) =>
    some (.tup [.agg (dGCurve.enc r2.fst), I r2.snd], [])))) = some y) : cw f_equating_Chain [.agg (dGDistribution.enc a0), .agg (dGDistribution.enc a1), .agg (dGDistribution.enc a2), .agg (dGDistribution.enc a3), I a4] [] = some y :=
  callw_tree R_equating_Chain zT [] (by kernel_rfl) (by kernel_rfl) (by kernel_rfl) (by kernel_rfl) (by kernel_rfl) h

theorem e_conversion_Same (a0 : GCurve) (a1 : GCurve) {y : AV × Mem} (h : (
  callD r_conversion_Normal (cw f_conversion_Normal [.agg (dGCurve.enc a0)] []) fun (r0 : GCurve × Int) =>
  brn (r0.snd != 0) (some (B false, []))
  (callD r_conversion_Normal (cw f_conversion_Normal [.agg (dGCurve.enc a1)] []) fun (r1 : GCurve × Int) =>
   brn (r1.snd == 0) (callD r_slices_Equal_api_Point_api_Point (cw f_slices_Equal_api_Point_api_Point [.sl 4 (List.map dGPoint.enc r0.fst.Points), .sl 4 (List.map dGPoint.enc r1.fst.Points)] []) fun (r2 : Bool) =>
    some (B r2, []))
   (some (B false, [])))) = some y) : cw f_conversion_Same [.agg (dGCurve.enc a0), .agg (dGCurve.enc a1)] [] = some y :=
  callw_tree R_conversion_Same zT [] (by kernel_rfl) (by kernel_rfl) (by kernel_rfl) (by kernel_rfl) (by kernel_rfl) h

noncomputable def k_equating_Percentile_1 (a0 : GDistribution) (a1 : GDistribution) (r4 : (List Int)) (r5 : (List Int)) (c6 : Int) (c7 : Int) (x8 : List (List AV)) (x9 : Int) (x10 : Int) : Option (AV × Mem) := pt R_equating_Percentile 1 ⟨[(2, .loc 2 1 0 0), (3, .loc 3 1 0 0), (4, .loc 4 1 0 0), (6, .row 40 1 0 (List.length (List.map dI_i64.enc r4))), (7, .row 42 1 0 (List.length (List.map dI_i64.enc r5))), (8, I c6), (9, I c7), (11, .row 11 4 0 (List.length x8)), (12, I x9), (13, I x10)], [(2, ⟨1, ty_api_Distribution, [dGDistribution.enc a0], true⟩), (3, ⟨1, ty_api_Distribution, [dGDistribution.enc a1], true⟩), (4, ⟨1, ty_api_Curve, [[.v (.slice none 0 0)]], true⟩), (11, ⟨4, ty_api_Point, x8, false⟩), (40, ⟨1, ty_i64_2, List.map dI_i64.enc r4, false⟩), (42, ⟨1, ty_i64_2, List.map dI_i64.enc r5, false⟩)]⟩

noncomputable def k_equating_Percentile_1015 (a0 : GDistribution) (a1 : GDistribution) (r4 : (List Int)) (r5 : (List Int)) (c6 : Int) (c7 : Int) (x10 : Int) (x15 : List (List AV)) (x16 : Int) (x17 : Int) (x18 : Int) (x19 : Int) : Option (AV × Mem) := pt R_equating_Percentile 1015 ⟨[(2, .loc 2 1 0 0), (3, .loc 3 1 0 0), (4, .loc 4 1 0 0), (6, .row 40 1 0 (List.length (List.map dI_i64.enc r4))), (7, .row 42 1 0 (List.length (List.map dI_i64.enc r5))), (8, I c6), (9, I c7), (11, .row 11 4 0 (List.length x15)), (12, I x16), (13, I x10), (14, I x17), (15, I x18), (16, I x19), (17, I c7)], [(2, ⟨1, ty_api_Distribution, [dGDistribution.enc a0], true⟩), (3, ⟨1, ty_api_Distribution, [dGDistribution.enc a1], true⟩), (4, ⟨1, ty_api_Curve, [[.v (.slice none 0 0)]], true⟩), (11, ⟨4, ty_api_Point, x15, false⟩), (40, ⟨1, ty_i64_2, List.map dI_i64.enc r4, false⟩), (42, ⟨1, ty_i64_2, List.map dI_i64.enc r5, false⟩)]⟩

noncomputable def k_equating_Percentile_1015v1 (a0 : GDistribution) (a1 : GDistribution) (r4 : (List Int)) (r5 : (List Int)) (c6 : Int) (c7 : Int) (x10 : Int) (x20 : List (List AV)) (x21 : Int) (x22 : Int) (x23 : Int) (x24 : Int) : Option (AV × Mem) := pt R_equating_Percentile 1015 ⟨[(2, .loc 2 1 0 0), (3, .loc 3 1 0 0), (4, .loc 4 1 0 0), (6, .row 40 1 0 (List.length (List.map dI_i64.enc r4))), (7, .row 42 1 0 (List.length (List.map dI_i64.enc r5))), (8, I c6), (9, I c7), (11, .row 11 4 0 (List.length x20)), (12, I x21), (13, I x10), (14, I x22), (15, I x23), (16, I x24), (17, I c6), (94, B false)], [(2, ⟨1, ty_api_Distribution, [dGDistribution.enc a0], true⟩), (3, ⟨1, ty_api_Distribution, [dGDistribution.enc a1], true⟩), (4, ⟨1, ty_api_Curve, [[.v (.slice none 0 0)]], true⟩), (11, ⟨4, ty_api_Point, x20, false⟩), (40, ⟨1, ty_i64_2, List.map dI_i64.enc r4, false⟩), (42, ⟨1, ty_i64_2, List.map dI_i64.enc r5, false⟩)]⟩

noncomputable def k_equating_Percentile_1026 (a0 : GDistribution) (a1 : GDistribution) (r4 : (List Int)) (r5 : (List Int)) (c6 : Int) (c7 : Int) (x10 : Int) (x25 : List (List AV)) (x26 : Int) : Option (AV × Mem) := pt R_equating_Percentile 1026 ⟨[(2, .loc 2 1 0 0), (3, .loc 3 1 0 0), (4, .loc 4 1 0 0), (6, .row 40 1 0 (List.length (List.map dI_i64.enc r4))), (7, .row 42 1 0 (List.length (List.map dI_i64.enc r5))), (8, I c6), (9, I c7), (11, .row 11 4 0 (List.length x25)), (12, I x26), (13, I x10), (71, B false)], [(2, ⟨1, ty_api_Distribution, [dGDistribution.enc a0], true⟩), (3, ⟨1, ty_api_Distribution, [dGDistribution.enc a1], true⟩), (4, ⟨1, ty_api_Curve, [[.v (.slice none 0 0)]], true⟩), (11, ⟨4, ty_api_Point, x25, false⟩), (40, ⟨1, ty_i64_2, List.map dI_i64.enc r4, false⟩), (42, ⟨1, ty_i64_2, List.map dI_i64.enc r5, false⟩)]⟩

noncomputable def k_equating_Percentile_1024 (a0 : GDistribution) (a1 : GDistribution) (r4 : (List Int)) (r5 : (List Int)) (c6 : Int) (c7 : Int) (x10 : Int) (x29 : List (List AV)) (x30 : Int) (x31 : Int) (x32 : Int) : Option (AV × Mem) := pt R_equating_Percentile 1024 ⟨[(2, .loc 2 1 0 0), (3, .loc 3 1 0 0), (4, .loc 4 1 0 0), (6, .row 40 1 0 (List.length (List.map dI_i64.enc r4))), (7, .row 42 1 0 (List.length (List.map dI_i64.enc r5))), (8, I c6), (9, I c7), (11, .row 11 4 0 (List.length x29)), (12, I x30), (13, I x10), (14, I x31), (15, I x32)], [(2, ⟨1, ty_api_Distribution, [dGDistribution.enc a0], true⟩), (3, ⟨1, ty_api_Distribution, [dGDistribution.enc a1], true⟩), (4, ⟨1, ty_api_Curve, [[.v (.slice none 0 0)]], true⟩), (11, ⟨4, ty_api_Point, x29, false⟩), (40, ⟨1, ty_i64_2, List.map dI_i64.enc r4, false⟩), (42, ⟨1, ty_i64_2, List.map dI_i64.enc r5, false⟩)]⟩

noncomputable def k_equating_Percentile_1024v1 (a0 : GDistribution) (a1 : GDistribution) (r4 : (List Int)) (r5 : (List Int)) (c6 : Int) (c7 : Int) (x10 : Int) (x33 : List (List AV)) (x34 : Int) (x35 : Int) (x36 : Int) : Option (AV × Mem) := pt R_equating_Percentile 1024 ⟨[(2, .loc 2 1 0 0), (3, .loc 3 1 0 0), (4, .loc 4 1 0 0), (6, .row 40 1 0 (List.length (List.map dI_i64.enc r4))), (7, .row 42 1 0 (List.length (List.map dI_i64.enc r5))), (8, I c6), (9, I c7), (11, .row 11 4 0 (List.length x33)), (12, I x34), (13, I x10), (14, I x35), (15, I x36), (133, B false)], [(2, ⟨1, ty_api_Distribution, [dGDistribution.enc a0], true⟩), (3, ⟨1, ty_api_Distribution, [dGDistribution.enc a1], true⟩), (4, ⟨1, ty_api_Curve, [[.v (.slice none 0 0)]], true⟩), (11, ⟨4, ty_api_Point, x33, false⟩), (40, ⟨1, ty_i64_2, List.map dI_i64.enc r4, false⟩), (42, ⟨1, ty_i64_2, List.map dI_i64.enc r5, false⟩)]⟩

noncomputable def k_equating_Percentile_1v1 (a0 : GDistribution) (a1 : GDistribution) (r4 : (List Int)) (r5 : (List Int)) (c6 : Int) (c7 : Int) (x10 : Int) (x40 : List (List AV)) (x41 : Int) : Option (AV × Mem) := pt R_equating_Percentile 1 ⟨[(2, .loc 2 1 0 0), (3, .loc 3 1 0 0), (4, .loc 4 1 0 0), (6, .row 40 1 0 (List.length (List.map dI_i64.enc r4))), (7, .row 42 1 0 (List.length (List.map dI_i64.enc r5))), (8, I c6), (9, I c7), (11, .row 11 4 0 (List.length x40)), (12, I x41), (13, I x10), (138, B false)], [(2, ⟨1, ty_api_Distribution, [dGDistribution.enc a0], true⟩), (3, ⟨1, ty_api_Distribution, [dGDistribution.enc a1], true⟩), (4, ⟨1, ty_api_Curve, [[.v (.slice none 0 0)]], true⟩), (11, ⟨4, ty_api_Point, x40, false⟩), (40, ⟨1, ty_i64_2, List.map dI_i64.enc r4, false⟩), (42, ⟨1, ty_i64_2, List.map dI_i64.enc r5, false⟩)]⟩

theorem t_equating_Percentile_1 (a0 : GDistribution) (a1 : GDistribution) (r4 : (List Int)) (r5 : (List Int)) (c6 : Int) (c7 : Int) (x8 : List (List AV)) (x9 : Int) (x10 : Int) {y : AV × Mem} (h : (
  brn (decide (x9 < (↑(List.map dI_i64.enc a0.Counts).length : Int))) (brn (decide (x10 < (↑(List.map dI_i64.enc a1.Counts).length : Int))) (chk ((0 : Int) ≤ (w64 (x9 + 1))) <|
    chk ((w64 (x9 + 1) : Int) < ((↑(List.map dI_i64.enc r4).length : Int))) <|
    elemD dI_i64 (List.map dI_i64.enc r4) (0 + (w64 (x9 + 1)).toNat) fun (c11 : Int) =>
    chk ((0 : Int) ≤ (w64 (x10 + 1))) <|
    chk ((w64 (x10 + 1) : Int) < ((↑(List.map dI_i64.enc r5).length : Int))) <|
    elemD dI_i64 (List.map dI_i64.enc r5) (0 + (w64 (x10 + 1)).toNat) fun (c12 : Int) =>
    chk ((0 : Int) ≤ (w64 (x9 + 1))) <|
    chk ((w64 (x9 + 1) : Int) < ((↑(List.map dI_i64.enc r4).length : Int))) <|
    elemD dI_i64 (List.map dI_i64.enc r4) (0 + (w64 (x9 + 1)).toNat) fun (c13 : Int) =>
    brn (decide (w64 (c12 * c6) < w64 (c11 * c7))) (chk ((0 : Int) ≤ (w64 (x10 + 1))) <|
     chk ((w64 (x10 + 1) : Int) < ((↑(List.map dI_i64.enc r5).length : Int))) <|
     elemD dI_i64 (List.map dI_i64.enc r5) (0 + (w64 (x10 + 1)).toNat) fun (c14 : Int) =>
     k_equating_Percentile_1015 a0 a1 r4 r5 c6 c7 x10 x8 x9 (w64 (c11 * c7)) (w64 (c12 * c6)) c14)
    (k_equating_Percentile_1015v1 a0 a1 r4 r5 c6 c7 x10 x8 x9 (w64 (c11 * c7)) (w64 (c12 * c6)) c13))
   (k_equating_Percentile_1026 a0 a1 r4 r5 c6 c7 x10 x8 x9))
  (k_equating_Percentile_1026 a0 a1 r4 r5 c6 c7 x10 x8 x9)) = some y) : k_equating_Percentile_1 a0 a1 r4 r5 c6 c7 x8 x9 x10 = some y :=
  pt_of zT [26, 24, 15] (by kernel_rfl) h

theorem t_equating_Percentile_1015 (a0 : GDistribution) (a1 : GDistribution) (r4 : (List Int)) (r5 : (List Int)) (c6 : Int) (c7 : Int) (x10 : Int) (x15 : List (List AV)) (x16 : Int) (x17 : Int) (x18 : Int) (x19 : Int) {y : AV × Mem} (h : (
  chk (0 + (List.map dI_i64.enc r4).length ≤ (List.map dI_i64.enc r4).length) <|
  callD r_equating_number (cw f_equating_number [.sl 1 (List.take ((List.map dI_i64.enc r4).length) (List.map dI_i64.enc r4)), I x16, I x19, I c7] []) fun (r27 : GRatio × Int) =>
  brn (r27.snd != 0) (some (.tup [.agg (dGCurve.enc ⟨[]⟩), I r27.snd], []))
  (chk (0 + (List.map dI_i64.enc r5).length ≤ (List.map dI_i64.enc r5).length) <|
   callD r_equating_number (cw f_equating_number [.sl 1 (List.take ((List.map dI_i64.enc r5).length) (List.map dI_i64.enc r5)), I x10, I x19, I c7] []) fun (r28 : GRatio × Int) =>
   brn (r28.snd != 0) (some (.tup [.agg (dGCurve.enc ⟨[]⟩), I r28.snd], []))
   (chk (x15.length = x15.length) <|
    chk ((x15.length + 1) * (32 + 1) ≤ 1099511627776) <|
    chk ((x15 ++ [[AV.v (Go.Value.int IntKind.i64 r27.fst.Num), AV.v (Go.Value.int IntKind.i64 r27.fst.Den), AV.v (Go.Value.int IntKind.i64 r28.fst.Num), AV.v (Go.Value.int IntKind.i64 r28.fst.Den)]]).length = (x15 ++ [[AV.v (Go.Value.int IntKind.i64 r27.fst.Num), AV.v (Go.Value.int IntKind.i64 r27.fst.Den), AV.v (Go.Value.int IntKind.i64 r28.fst.Num), AV.v (Go.Value.int IntKind.i64 r28.fst.Den)]]).length) <|
    brn (decide (x17 ≤ x18)) (k_equating_Percentile_1024 a0 a1 r4 r5 c6 c7 x10 (x15 ++ ([dGPoint.enc (⟨⟨r27.fst.Num, r27.fst.Den⟩, ⟨r28.fst.Num, r28.fst.Den⟩⟩)])) (w64 (x16 + 1)) x17 x18)
    (k_equating_Percentile_1024v1 a0 a1 r4 r5 c6 c7 x10 (x15 ++ ([dGPoint.enc (⟨⟨r27.fst.Num, r27.fst.Den⟩, ⟨r28.fst.Num, r28.fst.Den⟩⟩)])) x16 x17 x18)))) = some y) : k_equating_Percentile_1015 a0 a1 r4 r5 c6 c7 x10 x15 x16 x17 x18 x19 = some y :=
  pt_of zT [26, 24, 15] (by kernel_rfl) h

theorem t_equating_Percentile_1015v1 (a0 : GDistribution) (a1 : GDistribution) (r4 : (List Int)) (r5 : (List Int)) (c6 : Int) (c7 : Int) (x10 : Int) (x20 : List (List AV)) (x21 : Int) (x22 : Int) (x23 : Int) (x24 : Int) {y : AV × Mem} (h : (
  chk (0 + (List.map dI_i64.enc r4).length ≤ (List.map dI_i64.enc r4).length) <|
  callD r_equating_number (cw f_equating_number [.sl 1 (List.take ((List.map dI_i64.enc r4).length) (List.map dI_i64.enc r4)), I x21, I x24, I c6] []) fun (r37 : GRatio × Int) =>
  brn (r37.snd != 0) (some (.tup [.agg (dGCurve.enc ⟨[]⟩), I r37.snd], []))
  (chk (0 + (List.map dI_i64.enc r5).length ≤ (List.map dI_i64.enc r5).length) <|
   callD r_equating_number (cw f_equating_number [.sl 1 (List.take ((List.map dI_i64.enc r5).length) (List.map dI_i64.enc r5)), I x10, I x24, I c6] []) fun (r38 : GRatio × Int) =>
   brn (r38.snd != 0) (some (.tup [.agg (dGCurve.enc ⟨[]⟩), I r38.snd], []))
   (chk (x20.length = x20.length) <|
    chk ((x20.length + 1) * (32 + 1) ≤ 1099511627776) <|
    chk ((x20 ++ [[AV.v (Go.Value.int IntKind.i64 r37.fst.Num), AV.v (Go.Value.int IntKind.i64 r37.fst.Den), AV.v (Go.Value.int IntKind.i64 r38.fst.Num), AV.v (Go.Value.int IntKind.i64 r38.fst.Den)]]).length = (x20 ++ [[AV.v (Go.Value.int IntKind.i64 r37.fst.Num), AV.v (Go.Value.int IntKind.i64 r37.fst.Den), AV.v (Go.Value.int IntKind.i64 r38.fst.Num), AV.v (Go.Value.int IntKind.i64 r38.fst.Den)]]).length) <|
    brn (decide (x22 ≤ x23)) (k_equating_Percentile_1024 a0 a1 r4 r5 c6 c7 x10 (x20 ++ ([dGPoint.enc (⟨⟨r37.fst.Num, r37.fst.Den⟩, ⟨r38.fst.Num, r38.fst.Den⟩⟩)])) (w64 (x21 + 1)) x22 x23)
    (k_equating_Percentile_1024v1 a0 a1 r4 r5 c6 c7 x10 (x20 ++ ([dGPoint.enc (⟨⟨r37.fst.Num, r37.fst.Den⟩, ⟨r38.fst.Num, r38.fst.Den⟩⟩)])) x21 x22 x23)))) = some y) : k_equating_Percentile_1015v1 a0 a1 r4 r5 c6 c7 x10 x20 x21 x22 x23 x24 = some y :=
  pt_of zT [26, 24, 15] (by kernel_rfl) h

theorem t_equating_Percentile_1026 (a0 : GDistribution) (a1 : GDistribution) (r4 : (List Int)) (r5 : (List Int)) (c6 : Int) (c7 : Int) (x10 : Int) (x25 : List (List AV)) (x26 : Int) {y : AV × Mem} (h : (
  chk (0 + x25.length ≤ x25.length) <|
  callD r_conversion_Normal (cw f_conversion_Normal [.agg [.sl 4 (List.take x25.length x25)]] []) fun (r39 : GCurve × Int) =>
  chk (0 + x25.length ≤ x25.length) <|
  chk (0 + x25.length ≤ x25.length) <|
  chk (0 + x25.length ≤ x25.length) <|
  some (.tup [.agg (dGCurve.enc r39.fst), I r39.snd], [])) = some y) : k_equating_Percentile_1026 a0 a1 r4 r5 c6 c7 x10 x25 x26 = some y :=
  pt_of zT [26, 24, 15] (by kernel_rfl) h

theorem t_equating_Percentile_1024 (a0 : GDistribution) (a1 : GDistribution) (r4 : (List Int)) (r5 : (List Int)) (c6 : Int) (c7 : Int) (x10 : Int) (x29 : List (List AV)) (x30 : Int) (x31 : Int) (x32 : Int) {y : AV × Mem} (h : (
  brn (decide (x32 ≤ x31)) (k_equating_Percentile_1 a0 a1 r4 r5 c6 c7 x29 x30 (w64 (x10 + 1)))
  (k_equating_Percentile_1v1 a0 a1 r4 r5 c6 c7 x10 x29 x30)) = some y) : k_equating_Percentile_1024 a0 a1 r4 r5 c6 c7 x10 x29 x30 x31 x32 = some y :=
  pt_of zT [26, 24, 15] (by kernel_rfl) h

theorem t_equating_Percentile_1024v1 (a0 : GDistribution) (a1 : GDistribution) (r4 : (List Int)) (r5 : (List Int)) (c6 : Int) (c7 : Int) (x10 : Int) (x33 : List (List AV)) (x34 : Int) (x35 : Int) (x36 : Int) {y : AV × Mem} (h : (
  brn (decide (x36 ≤ x35)) (k_equating_Percentile_1 a0 a1 r4 r5 c6 c7 x33 x34 (w64 (x10 + 1)))
  (k_equating_Percentile_1v1 a0 a1 r4 r5 c6 c7 x10 x33 x34)) = some y) : k_equating_Percentile_1024v1 a0 a1 r4 r5 c6 c7 x10 x33 x34 x35 x36 = some y :=
  pt_of zT [26, 24, 15] (by kernel_rfl) h

theorem t_equating_Percentile_1v1 (a0 : GDistribution) (a1 : GDistribution) (r4 : (List Int)) (r5 : (List Int)) (c6 : Int) (c7 : Int) (x10 : Int) (x40 : List (List AV)) (x41 : Int) {y : AV × Mem} (h : (
  brn (decide (x41 < (↑(List.map dI_i64.enc a0.Counts).length : Int))) (brn (decide (x10 < (↑(List.map dI_i64.enc a1.Counts).length : Int))) (chk ((0 : Int) ≤ (w64 (x41 + 1))) <|
    chk ((w64 (x41 + 1) : Int) < ((↑(List.map dI_i64.enc r4).length : Int))) <|
    elemD dI_i64 (List.map dI_i64.enc r4) (0 + (w64 (x41 + 1)).toNat) fun (c42 : Int) =>
    chk ((0 : Int) ≤ (w64 (x10 + 1))) <|
    chk ((w64 (x10 + 1) : Int) < ((↑(List.map dI_i64.enc r5).length : Int))) <|
    elemD dI_i64 (List.map dI_i64.enc r5) (0 + (w64 (x10 + 1)).toNat) fun (c43 : Int) =>
    chk ((0 : Int) ≤ (w64 (x41 + 1))) <|
    chk ((w64 (x41 + 1) : Int) < ((↑(List.map dI_i64.enc r4).length : Int))) <|
    elemD dI_i64 (List.map dI_i64.enc r4) (0 + (w64 (x41 + 1)).toNat) fun (c44 : Int) =>
    brn (decide (w64 (c43 * c6) < w64 (c42 * c7))) (chk ((0 : Int) ≤ (w64 (x10 + 1))) <|
     chk ((w64 (x10 + 1) : Int) < ((↑(List.map dI_i64.enc r5).length : Int))) <|
     elemD dI_i64 (List.map dI_i64.enc r5) (0 + (w64 (x10 + 1)).toNat) fun (c45 : Int) =>
     k_equating_Percentile_1015 a0 a1 r4 r5 c6 c7 x10 x40 x41 (w64 (c42 * c7)) (w64 (c43 * c6)) c45)
    (k_equating_Percentile_1015v1 a0 a1 r4 r5 c6 c7 x10 x40 x41 (w64 (c42 * c7)) (w64 (c43 * c6)) c44))
   (k_equating_Percentile_1026 a0 a1 r4 r5 c6 c7 x10 x40 x41))
  (k_equating_Percentile_1026 a0 a1 r4 r5 c6 c7 x10 x40 x41)) = some y) : k_equating_Percentile_1v1 a0 a1 r4 r5 c6 c7 x10 x40 x41 = some y :=
  pt_of zT [26, 24, 15] (by kernel_rfl) h

theorem e_equating_Percentile (a0 : GDistribution) (a1 : GDistribution) {y : AV × Mem} (h : (
  callD r_distribution_Valid (cw f_distribution_Valid [.agg (dGDistribution.enc a0)] []) fun (r0 : Bool) =>
  brn (!r0) (some (.tup [.agg (dGCurve.enc ⟨[]⟩), I 1], []))
  (callD r_distribution_Valid (cw f_distribution_Valid [.agg (dGDistribution.enc a1)] []) fun (r1 : Bool) =>
   brn (!r1) (some (.tup [.agg (dGCurve.enc ⟨[]⟩), I 1], []))
   (callD r_slices_Contains_int_int (cw f_slices_Contains_int_int [.sl 1 (List.map dI_i64.enc a0.Counts), I 0] []) fun (r2 : Bool) =>
    brn r2 (some (.tup [.agg (dGCurve.enc ⟨[]⟩), I 10], []))
    (callD r_slices_Contains_int_int (cw f_slices_Contains_int_int [.sl 1 (List.map dI_i64.enc a1.Counts), I 0] []) fun (r3 : Bool) =>
     brn r3 (some (.tup [.agg (dGCurve.enc ⟨[]⟩), I 10], []))
     (callD r_equating_sums (cw f_equating_sums [.agg (dGDistribution.enc a0)] []) fun (r4 : (List Int)) =>
      callD r_equating_sums (cw f_equating_sums [.agg (dGDistribution.enc a1)] []) fun (r5 : (List Int)) =>
      chk ((0 : Int) ≤ (w64 ((↑(List.map dI_i64.enc r4).length : Int) - 1))) <|
      chk ((w64 ((↑(List.map dI_i64.enc r4).length : Int) - 1) : Int) < ((↑(List.map dI_i64.enc r4).length : Int))) <|
      elemD dI_i64 (List.map dI_i64.enc r4) (0 + (w64 ((↑(List.map dI_i64.enc r4).length : Int) - 1)).toNat) fun (c6 : Int) =>
      chk ((0 : Int) ≤ (w64 ((↑(List.map dI_i64.enc r5).length : Int) - 1))) <|
      chk ((w64 ((↑(List.map dI_i64.enc r5).length : Int) - 1) : Int) < ((↑(List.map dI_i64.enc r5).length : Int))) <|
      elemD dI_i64 (List.map dI_i64.enc r5) (0 + (w64 ((↑(List.map dI_i64.enc r5).length : Int) - 1)).toNat) fun (c7 : Int) =>
      chk (1 = 1) <|
      k_equating_Percentile_1 a0 a1 r4 r5 c6 c7 ([dGPoint.enc (⟨⟨-1, 2⟩, ⟨-1, 2⟩⟩)]) 0 0))))) = some y) : cw f_equating_Percentile [.agg (dGDistribution.enc a0), .agg (dGDistribution.enc a1)] [] = some y :=
  callw_tree R_equating_Percentile zT [26, 24, 15] (by kernel_rfl) (by kernel_rfl) (by kernel_rfl) (by kernel_rfl) (by kernel_rfl) h

theorem e_conversion_Eval (a0 : GCurve) (a1 : GRatio) {y : AV × Mem} (h : (
  callD r_conversion_Valid (cw f_conversion_Valid [.agg (dGCurve.enc a0)] []) fun (r0 : Bool) =>
  brn (!r0) (some (.tup [.agg (dGRatio.enc (⟨0, 0⟩)), I 1], []))
  (callD r_ratio_Valid (cw f_ratio_Valid [.agg (dGRatio.enc a1)] []) fun (r1 : Bool) =>
   brn (!r1) (some (.tup [.agg (dGRatio.enc (⟨0, 0⟩)), I 1], []))
   (callD r_conversion_eval (cw f_conversion_eval [.sl 4 (List.map dGPoint.enc a0.Points), .agg (dGRatio.enc a1)] []) fun (r2 : GRatio × Int) =>
    some (.tup [.agg (dGRatio.enc r2.fst), I r2.snd], [])))) = some y) : cw f_conversion_Eval [.agg (dGCurve.enc a0), .agg (dGRatio.enc a1)] [] = some y :=
  callw_tree R_conversion_Eval zT [] (by kernel_rfl) (by kernel_rfl) (by kernel_rfl) (by kernel_rfl) (by kernel_rfl) h

theorem e_equating_Mean (a0 : GDistribution) (a1 : GDistribution) {y : AV × Mem} (h : (
  callD r_equating_both (cw f_equating_both [.agg (dGDistribution.enc a0), .agg (dGDistribution.enc a1), .fn f_distribution_Mean []] []) fun (r0 : GRatio × GRatio × Int) =>
  brn (r0.snd.snd != 0) (some (.tup [.agg (dGCurve.enc ⟨[]⟩), I r0.snd.snd], []))
  (callD r_equating_through (cw f_equating_through [.agg (dGRatio.enc (⟨1, 1⟩)), .agg (dGRatio.enc r0.fst), .agg (dGRatio.enc r0.snd.fst)] []) fun (r1 : GCurve × Int) =>
   some (.tup [.agg (dGCurve.enc r1.fst), I r1.snd], []))) = some y) : cw f_equating_Mean [.agg (dGDistribution.enc a0), .agg (dGDistribution.enc a1)] [] = some y :=
  callw_tree R_equating_Mean zT [] (by kernel_rfl) (by kernel_rfl) (by kernel_rfl) (by kernel_rfl) (by kernel_rfl) h

theorem e_mark_Dice_Next (a0 : GmarkDice) (a1 : Int) {y : AV × Mem} (h : (
  brn (decide ((↑(List.map dI_i64.enc a0.L).length : Int) ≤ a0.At)) (some (I 0, [(1000, ⟨2, ty_mark_Dice, [dGmarkDice.enc a0], true⟩)]))
  (brn (decide (a1 < 1)) (some (I 0, [(1000, ⟨2, ty_mark_Dice, [dGmarkDice.enc a0], true⟩)]))
   (chk ((0 : Int) ≤ a0.At) <|
    elemD dI_i64 (List.map dI_i64.enc a0.L) a0.At.toNat fun (c0 : Int) =>
    chk ((a1 : Int) ≠ 0) <|
    brn (decide (Int.tmod c0 a1 < 0)) (some (I (w64 (Int.tmod c0 a1 + a1)), [(1000, ⟨2, ty_mark_Dice, [dGmarkDice.enc (⟨a0.L, w64 (a0.At + 1)⟩)], true⟩)]))
    (some (I (Int.tmod c0 a1), [(1000, ⟨2, ty_mark_Dice, [dGmarkDice.enc (⟨a0.L, w64 (a0.At + 1)⟩)], true⟩)]))))) = some y) : cw f_mark_Dice_Next [.loc 1000 2 0 0, I a1] [(1000, ⟨2, ty_mark_Dice, [dGmarkDice.enc a0], true⟩)] = some y :=
  callw_tree R_mark_Dice_Next zT [] (by kernel_rfl) (by kernel_rfl) (by kernel_rfl) (by kernel_rfl) (by kernel_rfl) h

theorem e_mark_Dice_Pick (a0 : GmarkDice) (a1 : List Int) {y : AV × Mem} (h : (
  callD r_mark_Dice_Next (cw f_mark_Dice_Next [.loc 1000 2 0 0, I ((↑(List.map dI_i64.enc a1).length : Int))] [(1000, ⟨2, ty_mark_Dice, [dGmarkDice.enc a0], true⟩)]) fun (r0 : Int × GmarkDice) =>
  chk (0 ≤ r0.fst) <|
  elemD dI_i64 (List.map dI_i64.enc a1) (Int.toNat r0.fst) fun (c1 : Int) =>
  some (I c1, [(1000, ⟨2, ty_mark_Dice, [dGmarkDice.enc r0.snd], true⟩)])) = some y) : cw f_mark_Dice_Pick [.loc 1000 2 0 0, .sl 1 (List.map dI_i64.enc a1)] [(1000, ⟨2, ty_mark_Dice, [dGmarkDice.enc a0], true⟩)] = some y :=
  callw_tree R_mark_Dice_Pick zT [] (by kernel_rfl) (by kernel_rfl) (by kernel_rfl) (by kernel_rfl) (by kernel_rfl) h

theorem e_ratio_Valid (a0 : GRatio) {y : AV × Mem} (h : (
  brn (decide (a0.Den < 1)) (some (B false, []))
  (brn (decide (1152921504606846976 < a0.Den)) (some (B false, []))
   (brn (decide (a0.Num < -1152921504606846976)) (some (B false, []))
    (brn (decide (1152921504606846976 < a0.Num)) (some (B false, []))
     (callD r_ratio_magnitude (cw f_ratio_magnitude [I a0.Num] []) fun (r0 : Int) =>
      callD r_ratio_gcd (cw f_ratio_gcd [.v (.int .u64 r0), .v (.int .u64 (wu64 a0.Den))] []) fun (r1 : Int) =>
      some (B (r1 == 1), [])))))) = some y) : cw f_ratio_Valid [.agg (dGRatio.enc a0)] [] = some y :=
  callw_tree R_ratio_Valid zT [] (by kernel_rfl) (by kernel_rfl) (by kernel_rfl) (by kernel_rfl) (by kernel_rfl) h

theorem e_ratio_Add (a0 : GRatio) (a1 : GRatio) {y : AV × Mem} (h : (
  callD r_ratio_Valid (cw f_ratio_Valid [.agg (dGRatio.enc a0)] []) fun (r0 : Bool) =>
  brn (!r0) (some (.tup [.agg (dGRatio.enc (⟨0, 0⟩)), I 1], []))
  (callD r_ratio_Valid (cw f_ratio_Valid [.agg (dGRatio.enc a1)] []) fun (r1 : Bool) =>
   brn (!r1) (some (.tup [.agg (dGRatio.enc (⟨0, 0⟩)), I 1], []))
   (callD r_ratio_gcd (cw f_ratio_gcd [.v (.int .u64 (wu64 a0.Den)), .v (.int .u64 (wu64 a1.Den))] []) fun (r2 : Int) =>
    chk ((r2 : Int) ≠ 0) <|
    callD r_ratio_signedProduct (cw f_ratio_signedProduct [I a0.Num, .v (.int .u64 (wu64 ((wu64 a1.Den).tdiv r2)))] []) fun (r3 : GratioSigned) =>
    chk ((r2 : Int) ≠ 0) <|
    callD r_ratio_signedProduct (cw f_ratio_signedProduct [I a1.Num, .v (.int .u64 (wu64 ((wu64 a0.Den).tdiv r2)))] []) fun (r4 : GratioSigned) =>
    callD r_ratio_signed_plus (cw f_ratio_signed_plus [.agg (dGratioSigned.enc r3), .agg (dGratioSigned.enc r4)] []) fun (r5 : GratioSigned) =>
    callD r_ratio_wide_mod (cw f_ratio_wide_mod [.agg (dGratioWide.enc r5.abs), .v (.int .u64 r2)] []) fun (r6 : Int) =>
    callD r_ratio_gcd (cw f_ratio_gcd [.v (.int .u64 r6), .v (.int .u64 r2)] []) fun (r7 : Int) =>
    callD r_ratio_wide_over (cw f_ratio_wide_over [.agg (dGratioWide.enc r5.abs), .v (.int .u64 r7)] []) fun (r8 : GratioWide) =>
    chk ((r2 : Int) ≠ 0) <|
    chk ((r7 : Int) ≠ 0) <|
    callD r_ratio_product (cw f_ratio_product [.v (.int .u64 (wu64 ((wu64 a0.Den).tdiv r2))), .v (.int .u64 (wu64 ((wu64 a1.Den).tdiv r7)))] []) fun (r9 : GratioWide) =>
    callD r_ratio_fitted (cw f_ratio_fitted [B r5.neg, .agg (dGratioWide.enc r8), .agg (dGratioWide.enc r9)] []) fun (r10 : GRatio × Int) =>
    some (.tup [.agg (dGRatio.enc r10.fst), I r10.snd], [])))) = some y) : cw f_ratio_Add [.agg (dGRatio.enc a0), .agg (dGRatio.enc a1)] [] = some y :=
  callw_tree R_ratio_Add zT [] (by kernel_rfl) (by kernel_rfl) (by kernel_rfl) (by kernel_rfl) (by kernel_rfl) h

theorem e_conversion_whole (a0 : Int) {y : AV × Mem} (h : (
  some (.agg (dGRatio.enc (⟨a0, 1⟩)), [])) = some y) : cw f_conversion_whole [I a0] [] = some y :=
  callw_tree R_conversion_whole zT [] (by kernel_rfl) (by kernel_rfl) (by kernel_rfl) (by kernel_rfl) (by kernel_rfl) h

theorem e_equating_Linear (a0 : GDistribution) (a1 : GDistribution) {y : AV × Mem} (h : (
  callD r_equating_both (cw f_equating_both [.agg (dGDistribution.enc a0), .agg (dGDistribution.enc a1), .fn f_distribution_Deviation []] []) fun (r0 : GRatio × GRatio × Int) =>
  brn (r0.snd.snd != 0) (some (.tup [.agg (dGCurve.enc ⟨[]⟩), I r0.snd.snd], []))
  (brn (r0.fst.Num == 0) (some (.tup [.agg (dGCurve.enc ⟨[]⟩), I 10], []))
   (brn (r0.snd.fst.Num == 0) (some (.tup [.agg (dGCurve.enc ⟨[]⟩), I 10], []))
    (callD r_equating_both (cw f_equating_both [.agg (dGDistribution.enc a0), .agg (dGDistribution.enc a1), .fn f_distribution_Mean []] []) fun (r1 : GRatio × GRatio × Int) =>
     brn (r1.snd.snd != 0) (some (.tup [.agg (dGCurve.enc ⟨[]⟩), I r1.snd.snd], []))
     (callD r_ratio_Div (cw f_ratio_Div [.agg (dGRatio.enc r0.snd.fst), .agg (dGRatio.enc r0.fst)] []) fun (r2 : GRatio × Int) =>
      brn (r2.snd != 0) (some (.tup [.agg (dGCurve.enc ⟨[]⟩), I r2.snd], []))
      (callD r_equating_through (cw f_equating_through [.agg (dGRatio.enc r2.fst), .agg (dGRatio.enc r1.fst), .agg (dGRatio.enc r1.snd.fst)] []) fun (r3 : GCurve × Int) =>
       some (.tup [.agg (dGCurve.enc r3.fst), I r3.snd], []))))))) = some y) : cw f_equating_Linear [.agg (dGDistribution.enc a0), .agg (dGDistribution.enc a1)] [] = some y :=
  callw_tree R_equating_Linear zT [] (by kernel_rfl) (by kernel_rfl) (by kernel_rfl) (by kernel_rfl) (by kernel_rfl) h

end Go.Proofs.Ytapkemilafogjaa
