/- What the functions compute, between two cut points: printed by a program, checked by the kernel. -/
import Derived.Test.YtohpjbokhcifbaaAnn
namespace Go.Proofs.Ytohpjbokhcifbaa
open Go.Ab
set_option maxRecDepth 100000
set_option linter.unusedVariables false

noncomputable def k_severity_Kappa_1 (a0 : List Int) (a1 : List Int) (x3 : List (List AV)) (x4 : List (List AV)) (x5 : Int) (x6 : Int) : Option (AV × Mem) := pt R_severity_Kappa 1 ⟨[(0, .sl 1 (List.map dI_i64.enc a0)), (1, .sl 1 (List.map dI_i64.enc a1)), (4, .loc 4 2 0 0), (6, I ((↑(List.map dI_i64.enc a0).length : Int))), (7, .loc 7 1 0 0), (8, .loc 8 1 0 0), (9, I x5), (31, I ((↑(List.map dI_i64.enc a0).length : Int))), (32, I x6)], [(4, ⟨2, ty_api_Ratio, [dGRatio.enc (⟨0, 0⟩)], true⟩), (7, ⟨1, ty_A41_i64, x3, false⟩), (8, ⟨1, ty_A41_i64, x4, false⟩)]⟩

noncomputable def k_severity_Kappa_2 (a0 : List Int) (x3 : List (List AV)) (x4 : List (List AV)) (x5 : Int) (x21 : Int) (x22 : Int) : Option (AV × Mem) := pt R_severity_Kappa 2 ⟨[(4, .loc 4 2 0 0), (6, I ((↑(List.map dI_i64.enc a0).length : Int))), (7, .loc 7 1 0 0), (8, .loc 8 1 0 0), (9, I x5), (11, I x21), (78, I x22)], [(4, ⟨2, ty_api_Ratio, [dGRatio.enc (⟨0, 0⟩)], true⟩), (7, ⟨1, ty_A41_i64, x3, false⟩), (8, ⟨1, ty_A41_i64, x4, false⟩)]⟩

theorem t_severity_Kappa_1 (a0 : List Int) (a1 : List Int) (x3 : List (List AV)) (x4 : List (List AV)) (x5 : Int) (x6 : Int) {y : AV × Mem} (h : (
  brn (decide (x6 < (↑(List.map dI_i64.enc a0).length : Int))) (chk ((0 : Int) ≤ x6) <|
   elemD dI_i64 (List.map dI_i64.enc a0) x6.toNat fun (c7 : Int) =>
   callD r_severity_isMark (cw f_severity_isMark [I c7] []) fun (r8 : Bool) =>
   brn (!r8) (callD r_severity_zero (cw f_severity_zero [] []) fun (r9 : GRatio) =>
    some (.tup [.agg (dGRatio.enc r9), B false], []))
   (chk ((0 : Int) ≤ x6) <|
    elemD dI_i64 (List.map dI_i64.enc a1) x6.toNat fun (c10 : Int) =>
    callD r_severity_isMark (cw f_severity_isMark [I c10] []) fun (r11 : Bool) =>
    brn (!r11) (callD r_severity_zero (cw f_severity_zero [] []) fun (r12 : GRatio) =>
     some (.tup [.agg (dGRatio.enc r12), B false], []))
    (chk ((0 : Int) ≤ x6) <|
     elemD dI_i64 (List.map dI_i64.enc a0) x6.toNat fun (c13 : Int) =>
     chk (0 ≤ c13) <|
     chk ((c13 : Int) < (↑41 : Int)) <|
     elemD dI_i64 x3 (0 + Int.toNat c13) fun (c14 : Int) =>
     chk (0 ≤ c13) <|
     chk ((c13 : Int) < (↑41 : Int)) <|
     elemD dI_i64 x3 (0 + Int.toNat c13) fun (c15 : Int) =>
     chk ((0 : Int) ≤ x6) <|
     elemD dI_i64 (List.map dI_i64.enc a1) x6.toNat fun (c16 : Int) =>
     chk (0 ≤ c16) <|
     chk ((c16 : Int) < (↑41 : Int)) <|
     elemD dI_i64 x4 (0 + Int.toNat c16) fun (c17 : Int) =>
     chk (0 ≤ c16) <|
     chk ((c16 : Int) < (↑41 : Int)) <|
     elemD dI_i64 x4 (0 + Int.toNat c16) fun (c18 : Int) =>
     chk ((0 : Int) ≤ x6) <|
     elemD dI_i64 (List.map dI_i64.enc a0) x6.toNat fun (c19 : Int) =>
     chk ((0 : Int) ≤ x6) <|
     elemD dI_i64 (List.map dI_i64.enc a1) x6.toNat fun (c20 : Int) =>
     brn (c19 == c20) (k_severity_Kappa_1 a0 a1 (List.set x3 (0 + Int.toNat c13) (dI_i64.enc (w64 (c14 + 1)))) (List.set x4 (0 + Int.toNat c16) (dI_i64.enc (w64 (c17 + 1)))) (w64 (x5 + 1)) (w64 (x6 + 1)))
     (k_severity_Kappa_1 a0 a1 (List.set x3 (0 + Int.toNat c13) (dI_i64.enc (w64 (c14 + 1)))) (List.set x4 (0 + Int.toNat c16) (dI_i64.enc (w64 (c17 + 1)))) x5 (w64 (x6 + 1))))))
  (k_severity_Kappa_2 a0 x3 x4 x5 0 0)) = some y) : k_severity_Kappa_1 a0 a1 x3 x4 x5 x6 = some y :=
  pt_of zT [] (by kernel_rfl) h

theorem t_severity_Kappa_2 (a0 : List Int) (x3 : List (List AV)) (x4 : List (List AV)) (x5 : Int) (x21 : Int) (x22 : Int) {y : AV × Mem} (h : (
  brn (decide (x22 < 41)) (chk ((0 : Int) ≤ x22) <|
   chk ((x22 : Int) < (↑41 : Int)) <|
   elemD dI_i64 x3 (0 + x22.toNat) fun (c23 : Int) =>
   chk ((0 : Int) ≤ x22) <|
   chk ((x22 : Int) < (↑41 : Int)) <|
   elemD dI_i64 x4 (0 + x22.toNat) fun (c24 : Int) =>
   k_severity_Kappa_2 a0 x3 x4 x5 (w64 (x21 + w64 (c23 * c24))) (w64 (x22 + 1)))
  (brn (x21 == w64 ((↑(List.map dI_i64.enc a0).length : Int) * (↑(List.map dI_i64.enc a0).length : Int))) (callD r_severity_zero (cw f_severity_zero [] []) fun (r25 : GRatio) =>
    some (.tup [.agg (dGRatio.enc r25), B false], []))
   (callD r_ratio_New (cw f_ratio_New [I (w64 (w64 (x5 * (↑(List.map dI_i64.enc a0).length : Int)) - x21)), I (w64 (w64 ((↑(List.map dI_i64.enc a0).length : Int) * (↑(List.map dI_i64.enc a0).length : Int)) - x21))] []) fun (r26 : GRatio × Int) =>
    brn (r26.snd != 0) (callD r_severity_zero (cw f_severity_zero [] []) fun (r27 : GRatio) =>
     some (.tup [.agg (dGRatio.enc r27), B false], []))
    (some (.tup [.agg (dGRatio.enc r26.fst), B true], []))))) = some y) : k_severity_Kappa_2 a0 x3 x4 x5 x21 x22 = some y :=
  pt_of zT [] (by kernel_rfl) h

theorem e_severity_Kappa (a0 : List Int) (a1 : List Int) {y : AV × Mem} (h : (
  brn ((↑(List.map dI_i64.enc a1).length : Int) != (↑(List.map dI_i64.enc a0).length : Int)) (callD r_severity_zero (cw f_severity_zero [] []) fun (r0 : GRatio) =>
   some (.tup [.agg (dGRatio.enc r0), B false], []))
  (brn ((↑(List.map dI_i64.enc a0).length : Int) == 0) (callD r_severity_zero (cw f_severity_zero [] []) fun (r1 : GRatio) =>
    some (.tup [.agg (dGRatio.enc r1), B false], []))
   (brn (decide (500 < (↑(List.map dI_i64.enc a0).length : Int))) (callD r_severity_zero (cw f_severity_zero [] []) fun (r2 : GRatio) =>
     some (.tup [.agg (dGRatio.enc r2), B false], []))
    (k_severity_Kappa_1 a0 a1 ([dI_i64.enc 0, dI_i64.enc 0, dI_i64.enc 0, dI_i64.enc 0, dI_i64.enc 0, dI_i64.enc 0, dI_i64.enc 0, dI_i64.enc 0, dI_i64.enc 0, dI_i64.enc 0, dI_i64.enc 0, dI_i64.enc 0, dI_i64.enc 0, dI_i64.enc 0, dI_i64.enc 0, dI_i64.enc 0, dI_i64.enc 0, dI_i64.enc 0, dI_i64.enc 0, dI_i64.enc 0, dI_i64.enc 0, dI_i64.enc 0, dI_i64.enc 0, dI_i64.enc 0, dI_i64.enc 0, dI_i64.enc 0, dI_i64.enc 0, dI_i64.enc 0, dI_i64.enc 0, dI_i64.enc 0, dI_i64.enc 0, dI_i64.enc 0, dI_i64.enc 0, dI_i64.enc 0, dI_i64.enc 0, dI_i64.enc 0, dI_i64.enc 0, dI_i64.enc 0, dI_i64.enc 0, dI_i64.enc 0, dI_i64.enc 0]) ([dI_i64.enc 0, dI_i64.enc 0, dI_i64.enc 0, dI_i64.enc 0, dI_i64.enc 0, dI_i64.enc 0, dI_i64.enc 0, dI_i64.enc 0, dI_i64.enc 0, dI_i64.enc 0, dI_i64.enc 0, dI_i64.enc 0, dI_i64.enc 0, dI_i64.enc 0, dI_i64.enc 0, dI_i64.enc 0, dI_i64.enc 0, dI_i64.enc 0, dI_i64.enc 0, dI_i64.enc 0, dI_i64.enc 0, dI_i64.enc 0, dI_i64.enc 0, dI_i64.enc 0, dI_i64.enc 0, dI_i64.enc 0, dI_i64.enc 0, dI_i64.enc 0, dI_i64.enc 0, dI_i64.enc 0, dI_i64.enc 0, dI_i64.enc 0, dI_i64.enc 0, dI_i64.enc 0, dI_i64.enc 0, dI_i64.enc 0, dI_i64.enc 0, dI_i64.enc 0, dI_i64.enc 0, dI_i64.enc 0, dI_i64.enc 0]) 0 0)))) = some y) : cw f_severity_Kappa [.sl 1 (List.map dI_i64.enc a0), .sl 1 (List.map dI_i64.enc a1)] [] = some y :=
  callw_tree R_severity_Kappa zT [] (by kernel_rfl) (by kernel_rfl) (by kernel_rfl) (by kernel_rfl) (by kernel_rfl) h

theorem e_mark_Dice_Next (a0 : GmarkDice) (a1 : Int) {y : AV × Mem} (h : (
  brn (decide ((↑(List.map dI_i64.enc a0.L).length : Int) ≤ a0.At)) (some (I 0, [(1000, ⟨2, ty_mark_Dice, [dGmarkDice.enc a0], true⟩)]))
  (brn (decide (a1 < 1)) (some (I 0, [(1000, ⟨2, ty_mark_Dice, [dGmarkDice.enc a0], true⟩)]))
   (chk ((0 : Int) ≤ a0.At) <|
    elemD dI_i64 (List.map dI_i64.enc a0.L) a0.At.toNat fun (c0 : Int) =>
    chk ((a1 : Int) ≠ 0) <|
    brn (decide (Int.tmod c0 a1 < 0)) (some (I (w64 (Int.tmod c0 a1 + a1)), [(1000, ⟨2, ty_mark_Dice, [dGmarkDice.enc (⟨a0.L, w64 (a0.At + 1)⟩)], true⟩)]))
    (some (I (Int.tmod c0 a1), [(1000, ⟨2, ty_mark_Dice, [dGmarkDice.enc (⟨a0.L, w64 (a0.At + 1)⟩)], true⟩)]))))) = some y) : cw f_mark_Dice_Next [.loc 1000 2 0 0, I a1] [(1000, ⟨2, ty_mark_Dice, [dGmarkDice.enc a0], true⟩)] = some y :=
  callw_tree R_mark_Dice_Next zT [] (by kernel_rfl) (by kernel_rfl) (by kernel_rfl) (by kernel_rfl) (by kernel_rfl) h

noncomputable def k_severity_mean_Bias_1 (a0 : List GJudged) (a1 : Int) (x2 : Int) (x3 : Int) (x4 : Int) : Option (AV × Mem) := pt R_severity_mean 1 ⟨[(1, I a1), (2, .fn f_severity_Bias_1 []), (6, .loc 6 2 0 0), (8, I x2), (9, I x3), (18, .sl 3 (List.map dGJudged.enc a0)), (19, I ((↑(List.map dGJudged.enc a0).length : Int))), (20, I x4)], [(6, ⟨2, ty_api_Ratio, [dGRatio.enc (⟨0, 0⟩)], true⟩)]⟩

theorem t_severity_mean_Bias_1 (a0 : List GJudged) (a1 : Int) (x2 : Int) (x3 : Int) (x4 : Int) {y : AV × Mem} (h : (
  brn (decide (x4 < (↑(List.map dGJudged.enc a0).length : Int))) (chk ((0 : Int) ≤ x4) <|
   elemD dGJudged (List.map dGJudged.enc a0) x4.toNat fun (c5 : GJudged) =>
   brn (c5.Marker == a1) (callD r_severity_Bias_1 (cw f_severity_Bias_1 [I (w64 (c5.Value - c5.Final))] []) fun (r6 : Int) =>
    k_severity_mean_Bias_1 a0 a1 (w64 (x2 + r6)) (w64 (x3 + 1)) (w64 (x4 + 1)))
   (k_severity_mean_Bias_1 a0 a1 x2 x3 (w64 (x4 + 1))))
  (brn (x3 == 0) (callD r_severity_zero (cw f_severity_zero [] []) fun (r7 : GRatio) =>
    some (.tup [.agg (dGRatio.enc r7), B false], []))
   (callD r_ratio_New (cw f_ratio_New [I x2, I x3] []) fun (r8 : GRatio × Int) =>
    brn (r8.snd != 0) (callD r_severity_zero (cw f_severity_zero [] []) fun (r9 : GRatio) =>
     some (.tup [.agg (dGRatio.enc r9), B false], []))
    (some (.tup [.agg (dGRatio.enc r8.fst), B true], []))))) = some y) : k_severity_mean_Bias_1 a0 a1 x2 x3 x4 = some y :=
  pt_of zT [] (by kernel_rfl) h

theorem e_severity_mean_Bias (a0 : List GJudged) (a1 : Int) {y : AV × Mem} (h : (
  callD r_severity_right (cw f_severity_right [.sl 3 (List.map dGJudged.enc a0)] []) fun (r0 : Bool) =>
  brn (!r0) (callD r_severity_zero (cw f_severity_zero [] []) fun (r1 : GRatio) =>
   some (.tup [.agg (dGRatio.enc r1), B false], []))
  (k_severity_mean_Bias_1 a0 a1 0 0 0)) = some y) : cw f_severity_mean [.sl 3 (List.map dGJudged.enc a0), I a1, .fn f_severity_Bias_1 []] [] = some y :=
  callw_tree R_severity_mean zT [] (by kernel_rfl) (by kernel_rfl) (by kernel_rfl) (by kernel_rfl) (by kernel_rfl) h

noncomputable def k_severity_mean_Spread_1 (a0 : List GJudged) (a1 : Int) (x2 : Int) (x3 : Int) (x4 : Int) : Option (AV × Mem) := pt R_severity_mean 1 ⟨[(1, I a1), (2, .fn f_severity_Spread_1 []), (6, .loc 6 2 0 0), (8, I x2), (9, I x3), (18, .sl 3 (List.map dGJudged.enc a0)), (19, I ((↑(List.map dGJudged.enc a0).length : Int))), (20, I x4)], [(6, ⟨2, ty_api_Ratio, [dGRatio.enc (⟨0, 0⟩)], true⟩)]⟩

theorem t_severity_mean_Spread_1 (a0 : List GJudged) (a1 : Int) (x2 : Int) (x3 : Int) (x4 : Int) {y : AV × Mem} (h : (
  brn (decide (x4 < (↑(List.map dGJudged.enc a0).length : Int))) (chk ((0 : Int) ≤ x4) <|
   elemD dGJudged (List.map dGJudged.enc a0) x4.toNat fun (c5 : GJudged) =>
   brn (c5.Marker == a1) (callD r_severity_Spread_1 (cw f_severity_Spread_1 [I (w64 (c5.Value - c5.Final))] []) fun (r6 : Int) =>
    k_severity_mean_Spread_1 a0 a1 (w64 (x2 + r6)) (w64 (x3 + 1)) (w64 (x4 + 1)))
   (k_severity_mean_Spread_1 a0 a1 x2 x3 (w64 (x4 + 1))))
  (brn (x3 == 0) (callD r_severity_zero (cw f_severity_zero [] []) fun (r7 : GRatio) =>
    some (.tup [.agg (dGRatio.enc r7), B false], []))
   (callD r_ratio_New (cw f_ratio_New [I x2, I x3] []) fun (r8 : GRatio × Int) =>
    brn (r8.snd != 0) (callD r_severity_zero (cw f_severity_zero [] []) fun (r9 : GRatio) =>
     some (.tup [.agg (dGRatio.enc r9), B false], []))
    (some (.tup [.agg (dGRatio.enc r8.fst), B true], []))))) = some y) : k_severity_mean_Spread_1 a0 a1 x2 x3 x4 = some y :=
  pt_of zT [] (by kernel_rfl) h

theorem e_severity_mean_Spread (a0 : List GJudged) (a1 : Int) {y : AV × Mem} (h : (
  callD r_severity_right (cw f_severity_right [.sl 3 (List.map dGJudged.enc a0)] []) fun (r0 : Bool) =>
  brn (!r0) (callD r_severity_zero (cw f_severity_zero [] []) fun (r1 : GRatio) =>
   some (.tup [.agg (dGRatio.enc r1), B false], []))
  (k_severity_mean_Spread_1 a0 a1 0 0 0)) = some y) : cw f_severity_mean [.sl 3 (List.map dGJudged.enc a0), I a1, .fn f_severity_Spread_1 []] [] = some y :=
  callw_tree R_severity_mean zT [] (by kernel_rfl) (by kernel_rfl) (by kernel_rfl) (by kernel_rfl) (by kernel_rfl) h

noncomputable def k_severity_mean_Agreement_1 (a0 : List GJudged) (a1 : Int) (x2 : Int) (x3 : Int) (x4 : Int) : Option (AV × Mem) := pt R_severity_mean 1 ⟨[(1, I a1), (2, .fn f_severity_Agreement_1 []), (6, .loc 6 2 0 0), (8, I x2), (9, I x3), (18, .sl 3 (List.map dGJudged.enc a0)), (19, I ((↑(List.map dGJudged.enc a0).length : Int))), (20, I x4)], [(6, ⟨2, ty_api_Ratio, [dGRatio.enc (⟨0, 0⟩)], true⟩)]⟩

theorem t_severity_mean_Agreement_1 (a0 : List GJudged) (a1 : Int) (x2 : Int) (x3 : Int) (x4 : Int) {y : AV × Mem} (h : (
  brn (decide (x4 < (↑(List.map dGJudged.enc a0).length : Int))) (chk ((0 : Int) ≤ x4) <|
   elemD dGJudged (List.map dGJudged.enc a0) x4.toNat fun (c5 : GJudged) =>
   brn (c5.Marker == a1) (callD r_severity_Agreement_1 (cw f_severity_Agreement_1 [I (w64 (c5.Value - c5.Final))] []) fun (r6 : Int) =>
    k_severity_mean_Agreement_1 a0 a1 (w64 (x2 + r6)) (w64 (x3 + 1)) (w64 (x4 + 1)))
   (k_severity_mean_Agreement_1 a0 a1 x2 x3 (w64 (x4 + 1))))
  (brn (x3 == 0) (callD r_severity_zero (cw f_severity_zero [] []) fun (r7 : GRatio) =>
    some (.tup [.agg (dGRatio.enc r7), B false], []))
   (callD r_ratio_New (cw f_ratio_New [I x2, I x3] []) fun (r8 : GRatio × Int) =>
    brn (r8.snd != 0) (callD r_severity_zero (cw f_severity_zero [] []) fun (r9 : GRatio) =>
     some (.tup [.agg (dGRatio.enc r9), B false], []))
    (some (.tup [.agg (dGRatio.enc r8.fst), B true], []))))) = some y) : k_severity_mean_Agreement_1 a0 a1 x2 x3 x4 = some y :=
  pt_of zT [] (by kernel_rfl) h

theorem e_severity_mean_Agreement (a0 : List GJudged) (a1 : Int) {y : AV × Mem} (h : (
  callD r_severity_right (cw f_severity_right [.sl 3 (List.map dGJudged.enc a0)] []) fun (r0 : Bool) =>
  brn (!r0) (callD r_severity_zero (cw f_severity_zero [] []) fun (r1 : GRatio) =>
   some (.tup [.agg (dGRatio.enc r1), B false], []))
  (k_severity_mean_Agreement_1 a0 a1 0 0 0)) = some y) : cw f_severity_mean [.sl 3 (List.map dGJudged.enc a0), I a1, .fn f_severity_Agreement_1 []] [] = some y :=
  callw_tree R_severity_mean zT [] (by kernel_rfl) (by kernel_rfl) (by kernel_rfl) (by kernel_rfl) (by kernel_rfl) h

theorem e_severity_Bias_1 (a0 : Int) {y : AV × Mem} (h : (
  some (I a0, [])) = some y) : cw f_severity_Bias_1 [I a0] [] = some y :=
  callw_tree R_severity_Bias_1 zT [] (by kernel_rfl) (by kernel_rfl) (by kernel_rfl) (by kernel_rfl) (by kernel_rfl) h

theorem e_severity_Spread_1 (a0 : Int) {y : AV × Mem} (h : (
  some (I (if w64 (0 - a0) > a0 then w64 (0 - a0) else a0), [])) = some y) : cw f_severity_Spread_1 [I a0] [] = some y :=
  callw_tree R_severity_Spread_1 zT [] (by kernel_rfl) (by kernel_rfl) (by kernel_rfl) (by kernel_rfl) (by kernel_rfl) h

theorem e_severity_Agreement_1 (a0 : Int) {y : AV × Mem} (h : (
  brn (a0 == 0) (some (I 1, []))
  (some (I 0, []))) = some y) : cw f_severity_Agreement_1 [I a0] [] = some y :=
  callw_tree R_severity_Agreement_1 zT [] (by kernel_rfl) (by kernel_rfl) (by kernel_rfl) (by kernel_rfl) (by kernel_rfl) h

theorem e_ref01_Compare (a0 : GRatio) (a1 : GRatio) {y : AV × Mem} (h : (
  callD r_ref01_Valid (cw f_ref01_Valid [.agg (dGRatio.enc a0)] []) fun (r0 : Bool) =>
  brn (!r0) (some (I 0, []))
  (callD r_ref01_Valid (cw f_ref01_Valid [.agg (dGRatio.enc a1)] []) fun (r1 : Bool) =>
   brn (!r1) (some (I 0, []))
   (callD r_ref01_Size (cw f_ref01_Size [I a0.Num] []) fun (r2 : Int) =>
    callD r_ref01_Size (cw f_ref01_Size [I a1.Den] []) fun (r3 : Int) =>
    callD r_ref01_Product (cw f_ref01_Product [.v (.int .u64 r2), .v (.int .u64 r3)] []) fun (r4 : Gref01Wide) =>
    callD r_ref01_Size (cw f_ref01_Size [I a1.Num] []) fun (r5 : Int) =>
    callD r_ref01_Size (cw f_ref01_Size [I a0.Den] []) fun (r6 : Int) =>
    callD r_ref01_Product (cw f_ref01_Product [.v (.int .u64 r5), .v (.int .u64 r6)] []) fun (r7 : Gref01Wide) =>
    callD r_ref01_total (cw f_ref01_total [B (decide (a0.Num < 0)), .agg (dGref01Wide.enc r4), B (decide (0 < a1.Num)), .agg (dGref01Wide.enc r7)] []) fun (r8 : Bool × Gref01Wide) =>
    brn (r8.snd.Hi == 0 && (r8.snd.Lo == 0 && true)) (some (I 0, []))
    (brn r8.fst (some (I (-1), []))
     (some (I 1, [])))))) = some y) : cw f_ref01_Compare [.agg (dGRatio.enc a0), .agg (dGRatio.enc a1)] [] = some y :=
  callw_tree R_ref01_Compare zT [] (by kernel_rfl) (by kernel_rfl) (by kernel_rfl) (by kernel_rfl) (by kernel_rfl) h

theorem e_severity_right (a0 : List GJudged) {y : AV × Mem} (h : (
  brn (decide (500 < (↑(List.map dGJudged.enc a0).length : Int))) (some (B false, []))
  (callD r_slices_ContainsFunc_api_Judged_api_Judged (cw f_slices_ContainsFunc_api_Judged_api_Judged [.sl 3 (List.map dGJudged.enc a0), .fn f_severity_right_1 []] []) fun (r0 : Bool) =>
   some (B (!r0), []))) = some y) : cw f_severity_right [.sl 3 (List.map dGJudged.enc a0)] [] = some y :=
  callw_tree R_severity_right zT [] (by kernel_rfl) (by kernel_rfl) (by kernel_rfl) (by kernel_rfl) (by kernel_rfl) h

theorem e_slices_SortFunc_int_int (a0 : List Int) (s : List GRatio) {y : AV × Mem} (h : (
  callD r_bits_Len (cw f_bits_Len [.v (.int .u64 (wu64 (↑(List.map dI_i64.enc a0).length : Int)))] []) fun (r0 : Int) =>
  callD r_slices_pdqsortCmpFunc_int (cw f_slices_pdqsortCmpFunc_int [.row 1000 1 0 (List.length (List.map dI_i64.enc a0)), I 0, I ((↑(List.map dI_i64.enc a0).length : Int)), I r0, .fn f_severity_Rank_1 [.fa 2 (List.map dGRatio.enc s)]] [(1000, ⟨1, ty_i64_2, List.map dI_i64.enc a0, false⟩)]) fun (r1 : (List Int)) =>
  some (.tup [], [(1000, ⟨1, ty_i64_2, List.map dI_i64.enc r1, false⟩)])) = some y) : cw f_slices_SortFunc_int_int [.row 1000 1 0 (List.length (List.map dI_i64.enc a0)), .fn f_severity_Rank_1 [.fa 2 (List.map dGRatio.enc s)]] [(1000, ⟨1, ty_i64_2, List.map dI_i64.enc a0, false⟩)] = some y :=
  callw_tree R_slices_SortFunc_int_int zT [] (by kernel_rfl) (by kernel_rfl) (by kernel_rfl) (by kernel_rfl) (by kernel_rfl) h

theorem e_severity_Rank_1 (a0 : Int) (a1 : Int) (s : List GRatio) {y : AV × Mem} (h : (
  chk ((0 : Int) ≤ a1) <|
  chk ((a1 : Int) < (↑100 : Int)) <|
  elemD dGRatio (List.map dGRatio.enc s) a1.toNat fun (c0 : GRatio) =>
  chk ((0 : Int) ≤ a0) <|
  chk ((a0 : Int) < (↑100 : Int)) <|
  elemD dGRatio (List.map dGRatio.enc s) a0.toNat fun (c1 : GRatio) =>
  callD r_ratio_Compare (cw f_ratio_Compare [.agg (dGRatio.enc c0), .agg (dGRatio.enc c1)] []) fun (r2 : Int) =>
  callD r_cmp_Compare_int (cw f_cmp_Compare_int [I a0, I a1] []) fun (r3 : Int) =>
  callD r_cmp_Or_int (cw f_cmp_Or_int [.sl 1 (List.map dI_i64.enc ([r2, r3]))] []) fun (r4 : Int) =>
  some (I r4, [])) = some y) : cw f_severity_Rank_1 [I a0, I a1, .fa 2 (List.map dGRatio.enc s)] [] = some y :=
  callw_tree R_severity_Rank_1 zT [] (by kernel_rfl) (by kernel_rfl) (by kernel_rfl) (by kernel_rfl) (by kernel_rfl) h

noncomputable def k_cmp_Or_int_1 (a0 : List Int) (x0 : Int) : Option (AV × Mem) := pt R_cmp_Or_int 1 ⟨[(3, I 0), (6, .sl 1 (List.map dI_i64.enc a0)), (7, I ((↑(List.map dI_i64.enc a0).length : Int))), (8, I x0)], []⟩

theorem t_cmp_Or_int_1 (a0 : List Int) (x0 : Int) {y : AV × Mem} (h : (
  brn (decide (x0 < (↑(List.map dI_i64.enc a0).length : Int))) (chk ((0 : Int) ≤ x0) <|
   elemD dI_i64 (List.map dI_i64.enc a0) x0.toNat fun (c1 : Int) =>
   brn (c1 != 0) (some (I c1, []))
   (k_cmp_Or_int_1 a0 (w64 (x0 + 1))))
  (some (I 0, []))) = some y) : k_cmp_Or_int_1 a0 x0 = some y :=
  pt_of zT [] (by kernel_rfl) h

theorem e_cmp_Or_int (a0 : List Int) {y : AV × Mem} (h : (
  k_cmp_Or_int_1 a0 0) = some y) : cw f_cmp_Or_int [.sl 1 (List.map dI_i64.enc a0)] [] = some y :=
  callw_tree R_cmp_Or_int zT [] (by kernel_rfl) (by kernel_rfl) (by kernel_rfl) (by kernel_rfl) (by kernel_rfl) h

theorem e_ratio_Compare (a0 : GRatio) (a1 : GRatio) {y : AV × Mem} (h : (
  callD r_ratio_Valid (cw f_ratio_Valid [.agg (dGRatio.enc a0)] []) fun (r0 : Bool) =>
  brn (!r0) (some (I 0, []))
  (callD r_ratio_Valid (cw f_ratio_Valid [.agg (dGRatio.enc a1)] []) fun (r1 : Bool) =>
   brn (!r1) (some (I 0, []))
   (callD r_ratio_signedProduct (cw f_ratio_signedProduct [I a0.Num, .v (.int .u64 (wu64 a1.Den))] []) fun (r2 : GratioSigned) =>
    callD r_ratio_signedProduct (cw f_ratio_signedProduct [I a1.Num, .v (.int .u64 (wu64 a0.Den))] []) fun (r3 : GratioSigned) =>
    brn r2.neg (brn r3.neg (callD r_ratio_wide_compare (cw f_ratio_wide_compare [.agg (dGratioWide.enc r3.abs), .agg (dGratioWide.enc r2.abs)] []) fun (r4 : Int) =>
      some (I r4, []))
     (brn r2.neg (some (I (-1), []))
      (brn r3.neg (some (I 1, []))
       (callD r_ratio_wide_compare (cw f_ratio_wide_compare [.agg (dGratioWide.enc r2.abs), .agg (dGratioWide.enc r3.abs)] []) fun (r5 : Int) =>
        some (I r5, [])))))
    (brn r2.neg (some (I (-1), []))
     (brn r3.neg (some (I 1, []))
      (callD r_ratio_wide_compare (cw f_ratio_wide_compare [.agg (dGratioWide.enc r2.abs), .agg (dGratioWide.enc r3.abs)] []) fun (r6 : Int) =>
       some (I r6, []))))))) = some y) : cw f_ratio_Compare [.agg (dGRatio.enc a0), .agg (dGRatio.enc a1)] [] = some y :=
  callw_tree R_ratio_Compare zT [] (by kernel_rfl) (by kernel_rfl) (by kernel_rfl) (by kernel_rfl) (by kernel_rfl) h

theorem e_cmp_Compare_int (a0 : Int) (a1 : Int) {y : AV × Mem} (h : (
  callD r_cmp_isNaN_int (cw f_cmp_isNaN_int [I a0] []) fun (r0 : Bool) =>
  callD r_cmp_isNaN_int (cw f_cmp_isNaN_int [I a1] []) fun (r1 : Bool) =>
  brn r0 (brn r1 (some (I 0, []))
   (some (I (-1), [])))
  (brn r1 (some (I 1, []))
   (brn (decide (a0 < a1)) (some (I (-1), []))
    (brn (decide (a1 < a0)) (some (I 1, []))
     (some (I 0, [])))))) = some y) : cw f_cmp_Compare_int [I a0, I a1] [] = some y :=
  callw_tree R_cmp_Compare_int zT [] (by kernel_rfl) (by kernel_rfl) (by kernel_rfl) (by kernel_rfl) (by kernel_rfl) h

theorem e_severity_zero {y : AV × Mem} (h : (
  some (.agg (dGRatio.enc (⟨0, 1⟩)), [])) = some y) : cw f_severity_zero [] [] = some y :=
  callw_tree R_severity_zero zT [] (by kernel_rfl) (by kernel_rfl) (by kernel_rfl) (by kernel_rfl) (by kernel_rfl) h

theorem e_severity_isMark (a0 : Int) {y : AV × Mem} (h : (
  brn (decide (0 ≤ a0)) (some (B (decide (a0 ≤ 40)), []))
  (some (B false, []))) = some y) : cw f_severity_isMark [I a0] [] = some y :=
  callw_tree R_severity_isMark zT [] (by kernel_rfl) (by kernel_rfl) (by kernel_rfl) (by kernel_rfl) (by kernel_rfl) h

theorem e_ratio_New (a0 : Int) (a1 : Int) {y : AV × Mem} (h : (
  brn (a1 == 0) (some (.tup [.agg (dGRatio.enc (⟨0, 0⟩)), I 2], []))
  (callD r_ratio_magnitude (cw f_ratio_magnitude [I a0] []) fun (r0 : Int) =>
   callD r_ratio_magnitude (cw f_ratio_magnitude [I a1] []) fun (r1 : Int) =>
   callD r_ratio_reduced (cw f_ratio_reduced [.agg (dGratioSigned.enc (⟨!decide (a0 < 0) == decide (a1 < 0), ⟨0, r0⟩⟩)), .v (.int .u64 r1)] []) fun (r2 : GRatio × Int) =>
   some (.tup [.agg (dGRatio.enc r2.fst), I r2.snd], []))) = some y) : cw f_ratio_New [I a0, I a1] [] = some y :=
  callw_tree R_ratio_New zT [] (by kernel_rfl) (by kernel_rfl) (by kernel_rfl) (by kernel_rfl) (by kernel_rfl) h

theorem e_ref01_Valid (a0 : GRatio) {y : AV × Mem} (h : (
  brn (decide (a0.Den < 1)) (some (B false, []))
  (brn (decide (1152921504606846976 < a0.Den)) (some (B false, []))
   (brn (decide (a0.Num < -1152921504606846976)) (some (B false, []))
    (brn (decide (1152921504606846976 < a0.Num)) (some (B false, []))
     (callD r_ref01_Size (cw f_ref01_Size [I a0.Num] []) fun (r0 : Int) =>
      callD r_ref01_Size (cw f_ref01_Size [I a0.Den] []) fun (r1 : Int) =>
      callD r_ref01_Divisor (cw f_ref01_Divisor [.agg (dGref01Wide.enc (⟨0, r0⟩)), .agg (dGref01Wide.enc (⟨0, r1⟩))] []) fun (r2 : Gref01Wide) =>
      some (B (r2.Hi == 0 && (r2.Lo == 1 && true)), [])))))) = some y) : cw f_ref01_Valid [.agg (dGRatio.enc a0)] [] = some y :=
  callw_tree R_ref01_Valid zT [] (by kernel_rfl) (by kernel_rfl) (by kernel_rfl) (by kernel_rfl) (by kernel_rfl) h

theorem e_ref01_total (a0 : Bool) (a1 : Gref01Wide) (a2 : Bool) (a3 : Gref01Wide) {y : AV × Mem} (h : (
  brn (a0 == a2) (callD r_ref01_Plus (cw f_ref01_Plus [.agg (dGref01Wide.enc a1), .agg (dGref01Wide.enc a3)] []) fun (r0 : Gref01Wide) =>
   some (.tup [B a0, .agg (dGref01Wide.enc r0)], []))
  (callD r_ref01_Order (cw f_ref01_Order [.agg (dGref01Wide.enc a1), .agg (dGref01Wide.enc a3)] []) fun (r1 : Int) =>
   brn (decide (0 ≤ r1)) (callD r_ref01_Minus (cw f_ref01_Minus [.agg (dGref01Wide.enc a1), .agg (dGref01Wide.enc a3)] []) fun (r2 : Gref01Wide) =>
    some (.tup [B a0, .agg (dGref01Wide.enc r2)], []))
   (callD r_ref01_Minus (cw f_ref01_Minus [.agg (dGref01Wide.enc a3), .agg (dGref01Wide.enc a1)] []) fun (r3 : Gref01Wide) =>
    some (.tup [B a2, .agg (dGref01Wide.enc r3)], [])))) = some y) : cw f_ref01_total [B a0, .agg (dGref01Wide.enc a1), B a2, .agg (dGref01Wide.enc a3)] [] = some y :=
  callw_tree R_ref01_total zT [] (by kernel_rfl) (by kernel_rfl) (by kernel_rfl) (by kernel_rfl) (by kernel_rfl) h

theorem e_ref01_Product (a0 : Int) (a1 : Int) {y : AV × Mem} (h : (
  callD r_bits_Mul64 (cw f_bits_Mul64 [.v (.int .u64 a0), .v (.int .u64 a1)] []) fun (r0 : Int × Int) =>
  some (.agg (dGref01Wide.enc (⟨r0.fst, r0.snd⟩)), [])) = some y) : cw f_ref01_Product [.v (.int .u64 a0), .v (.int .u64 a1)] [] = some y :=
  callw_tree R_ref01_Product zT [] (by kernel_rfl) (by kernel_rfl) (by kernel_rfl) (by kernel_rfl) (by kernel_rfl) h

theorem e_ref01_Size (a0 : Int) {y : AV × Mem} (h : (
  brn (decide (a0 < 0)) (some (.v (.int .u64 (wu64 (wu64 (w64 (0 - w64 (a0 + 1))) + 1))), []))
  (some (.v (.int .u64 (wu64 a0)), []))) = some y) : cw f_ref01_Size [I a0] [] = some y :=
  callw_tree R_ref01_Size zT [] (by kernel_rfl) (by kernel_rfl) (by kernel_rfl) (by kernel_rfl) (by kernel_rfl) h

theorem e_slices_ContainsFunc_api_Judged_api_Judged (a0 : List GJudged) {y : AV × Mem} (h : (
  callD r_slices_IndexFunc_api_Judged_api_Judged (cw f_slices_IndexFunc_api_Judged_api_Judged [.sl 3 (List.map dGJudged.enc a0), .fn f_severity_right_1 []] []) fun (r0 : Int) =>
  some (B (decide (0 ≤ r0)), [])) = some y) : cw f_slices_ContainsFunc_api_Judged_api_Judged [.sl 3 (List.map dGJudged.enc a0), .fn f_severity_right_1 []] [] = some y :=
  callw_tree R_slices_ContainsFunc_api_Judged_api_Judged zT [] (by kernel_rfl) (by kernel_rfl) (by kernel_rfl) (by kernel_rfl) (by kernel_rfl) h

theorem e_severity_right_1 (a0 : GJudged) {y : AV × Mem} (h : (
  brn (decide (a0.Marker < 1)) (some (B true, []))
  (brn (decide (99 < a0.Marker)) (some (B true, []))
   (callD r_severity_isMark (cw f_severity_isMark [I a0.Value] []) fun (r0 : Bool) =>
    brn (!r0) (some (B true, []))
    (callD r_severity_isMark (cw f_severity_isMark [I a0.Final] []) fun (r1 : Bool) =>
     some (B (!r1), []))))) = some y) : cw f_severity_right_1 [.agg (dGJudged.enc a0)] [] = some y :=
  callw_tree R_severity_right_1 zT [] (by kernel_rfl) (by kernel_rfl) (by kernel_rfl) (by kernel_rfl) (by kernel_rfl) h

end Go.Proofs.Ytohpjbokhcifbaa
