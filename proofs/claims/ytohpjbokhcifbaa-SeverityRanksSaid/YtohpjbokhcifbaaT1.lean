/- What the functions compute, between two cut points: printed by a program, checked by the kernel. -/
import Derived.Test.YtohpjbokhcifbaaAnn
namespace Go.Proofs.Ytohpjbokhcifbaa
open Go.Ab
set_option maxRecDepth 100000
set_option linter.unusedVariables false

noncomputable def k_law31_SeverityBounds_1 (r3 : ((List GJudged)) × GmarkDice) (x4 : List (List AV)) (x5 : Int) : Option (AV × Mem) := pt R_law31_SeverityBounds 1 ⟨[(3, .row 27 3 0 (List.length (List.map dGJudged.enc r3.fst))), (4, .loc 4 2 0 0), (5, .loc 5 2 0 0), (6, .row 6 3 0 (List.length x4)), (30, .row 27 3 0 (List.length (List.map dGJudged.enc r3.fst))), (31, I ((↑(List.map dGJudged.enc r3.fst).length : Int))), (32, I x5)], [(4, ⟨2, ty_api_Ratio, [dGRatio.enc (⟨1, 1⟩)], true⟩), (5, ⟨2, ty_api_Ratio, [dGRatio.enc (⟨0, 1⟩)], true⟩), (6, ⟨3, ty_api_Judged, x4, false⟩), (27, ⟨3, ty_api_Judged, List.map dGJudged.enc r3.fst, false⟩)]⟩

noncomputable def k_law31_SeverityBounds_2 (r3 : ((List GJudged)) × GmarkDice) (r7 : GRatio × Bool) (x8 : Bool) (x9 : Bool) (x10 : Int) : Option (AV × Mem) := pt R_law31_SeverityBounds 2 ⟨[(3, .row 27 3 0 (List.length (List.map dGJudged.enc r3.fst))), (4, .loc 4 2 0 0), (5, .loc 5 2 0 0), (9, .loc 9 2 0 0), (10, B r7.snd), (11, B x8), (12, B x9), (13, I x10)], [(4, ⟨2, ty_api_Ratio, [dGRatio.enc (⟨1, 1⟩)], true⟩), (5, ⟨2, ty_api_Ratio, [dGRatio.enc (⟨0, 1⟩)], true⟩), (9, ⟨2, ty_api_Ratio, [dGRatio.enc r7.fst], true⟩), (27, ⟨3, ty_api_Judged, List.map dGJudged.enc r3.fst, false⟩)]⟩

noncomputable def k_law31_SeverityBounds_1028 (r3 : ((List GJudged)) × GmarkDice) (r7 : GRatio × Bool) (x8 : Bool) (x9 : Bool) (x10 : Int) (r11 : GRatio × Bool) (r12 : GRatio × Bool) (r13 : GRatio × Bool) : Option (AV × Mem) := pt R_law31_SeverityBounds 1028 ⟨[(3, .row 27 3 0 (List.length (List.map dGJudged.enc r3.fst))), (4, .loc 4 2 0 0), (5, .loc 5 2 0 0), (9, .loc 9 2 0 0), (10, B r7.snd), (11, B x8), (12, B x9), (13, I x10), (14, .loc 14 2 0 0), (16, .loc 16 2 0 0), (18, .loc 18 2 0 0), (20, .loc 20 2 0 0)], [(4, ⟨2, ty_api_Ratio, [dGRatio.enc (⟨1, 1⟩)], true⟩), (5, ⟨2, ty_api_Ratio, [dGRatio.enc (⟨0, 1⟩)], true⟩), (9, ⟨2, ty_api_Ratio, [dGRatio.enc r7.fst], true⟩), (14, ⟨2, ty_api_Ratio, [dGRatio.enc r11.fst], true⟩), (16, ⟨2, ty_api_Ratio, [dGRatio.enc r12.fst], true⟩), (18, ⟨2, ty_api_Ratio, [dGRatio.enc r13.fst], true⟩), (20, ⟨2, ty_api_Ratio, [dGRatio.enc (⟨w64 (0 - r11.fst.Num), r11.fst.Den⟩)], true⟩), (27, ⟨3, ty_api_Judged, List.map dGJudged.enc r3.fst, false⟩)]⟩

noncomputable def k_law31_SeverityBounds_1028v1 (r3 : ((List GJudged)) × GmarkDice) (r7 : GRatio × Bool) (x8 : Bool) (x9 : Bool) (x10 : Int) (r11 : GRatio × Bool) (r12 : GRatio × Bool) (r13 : GRatio × Bool) : Option (AV × Mem) := pt R_law31_SeverityBounds 1028 ⟨[(3, .row 27 3 0 (List.length (List.map dGJudged.enc r3.fst))), (4, .loc 4 2 0 0), (5, .loc 5 2 0 0), (9, .loc 9 2 0 0), (10, B r7.snd), (11, B x8), (12, B x9), (13, I x10), (14, .loc 14 2 0 0), (16, .loc 16 2 0 0), (18, .loc 18 2 0 0), (20, .loc 20 2 0 0), (87, B false)], [(4, ⟨2, ty_api_Ratio, [dGRatio.enc (⟨1, 1⟩)], true⟩), (5, ⟨2, ty_api_Ratio, [dGRatio.enc (⟨0, 1⟩)], true⟩), (9, ⟨2, ty_api_Ratio, [dGRatio.enc r7.fst], true⟩), (14, ⟨2, ty_api_Ratio, [dGRatio.enc r11.fst], true⟩), (16, ⟨2, ty_api_Ratio, [dGRatio.enc r12.fst], true⟩), (18, ⟨2, ty_api_Ratio, [dGRatio.enc r13.fst], true⟩), (20, ⟨2, ty_api_Ratio, [dGRatio.enc r11.fst], true⟩), (27, ⟨3, ty_api_Judged, List.map dGJudged.enc r3.fst, false⟩)]⟩

theorem t_law31_SeverityBounds_1 (r3 : ((List GJudged)) × GmarkDice) (x4 : List (List AV)) (x5 : Int) {y : AV × Mem} (h : (
  brn (decide (x5 < (↑(List.map dGJudged.enc r3.fst).length : Int))) (chk ((0 : Int) ≤ x5) <|
   chk ((x5 : Int) < ((↑(List.map dGJudged.enc r3.fst).length : Int))) <|
   elemD dGJudged (List.map dGJudged.enc r3.fst) (0 + x5.toNat) fun (c6 : GJudged) =>
   chk (x4.length = x4.length) <|
   chk ((x4.length + 1) * (24 + 1) ≤ 1099511627776) <|
   chk ((x4 ++ [[AV.v (Go.Value.int IntKind.i64 9), AV.v (Go.Value.int IntKind.i64 c6.Value), AV.v (Go.Value.int IntKind.i64 c6.Final)]]).length = (x4 ++ [[AV.v (Go.Value.int IntKind.i64 9), AV.v (Go.Value.int IntKind.i64 c6.Value), AV.v (Go.Value.int IntKind.i64 c6.Final)]]).length) <|
   k_law31_SeverityBounds_1 r3 (x4 ++ ([dGJudged.enc (⟨9, c6.Value, c6.Final⟩)])) (w64 (x5 + 1)))
  (chk (0 + x4.length ≤ x4.length) <|
   callD r_severity_Bias (cw f_severity_Bias [.sl 3 (List.take x4.length x4), I 9] []) fun (r7 : GRatio × Bool) =>
   brn (!r7.snd == decide (0 < (↑(List.map dGJudged.enc r3.fst).length : Int))) (some (B false, []))
   (k_law31_SeverityBounds_2 r3 r7 false false 1))) = some y) : k_law31_SeverityBounds_1 r3 x4 x5 = some y :=
  pt_of zT [28] (by kernel_rfl) h

theorem t_law31_SeverityBounds_2 (r3 : ((List GJudged)) × GmarkDice) (r7 : GRatio × Bool) (x8 : Bool) (x9 : Bool) (x10 : Int) {y : AV × Mem} (h : (
  brn (decide (x10 ≤ 4)) (chk (0 + (List.map dGJudged.enc r3.fst).length ≤ (List.map dGJudged.enc r3.fst).length) <|
   callD r_severity_Bias (cw f_severity_Bias [.sl 3 (List.take ((List.map dGJudged.enc r3.fst).length) (List.map dGJudged.enc r3.fst)), I x10] []) fun (r11 : GRatio × Bool) =>
   chk (0 + (List.map dGJudged.enc r3.fst).length ≤ (List.map dGJudged.enc r3.fst).length) <|
   callD r_severity_Spread (cw f_severity_Spread [.sl 3 (List.take ((List.map dGJudged.enc r3.fst).length) (List.map dGJudged.enc r3.fst)), I x10] []) fun (r12 : GRatio × Bool) =>
   chk (0 + (List.map dGJudged.enc r3.fst).length ≤ (List.map dGJudged.enc r3.fst).length) <|
   callD r_severity_Agreement (cw f_severity_Agreement [.sl 3 (List.take ((List.map dGJudged.enc r3.fst).length) (List.map dGJudged.enc r3.fst)), I x10] []) fun (r13 : GRatio × Bool) =>
   brn (!r11.snd == r12.snd) (some (B false, []))
   (brn (!r11.snd == r13.snd) (some (B false, []))
    (brn (!r11.snd) (k_law31_SeverityBounds_2 r3 r7 x8 x9 (w64 (x10 + 1)))
     (brn (decide (r11.fst.Num < 0)) (k_law31_SeverityBounds_1028 r3 r7 x8 x9 x10 r11 r12 r13)
      (k_law31_SeverityBounds_1028v1 r3 r7 x8 x9 x10 r11 r12 r13)))))
  (brn (!r7.snd) (callD r_law31_sane (cw f_law31_sane [] []) fun (r14 : Bool) =>
    some (B r14, []))
   (brn x8 (brn x9 (callD r_law31_sane (cw f_law31_sane [] []) fun (r15 : Bool) =>
      some (B r15, []))
     (some (B false, [])))
    (some (B false, []))))) = some y) : k_law31_SeverityBounds_2 r3 r7 x8 x9 x10 = some y :=
  pt_of zT [28] (by kernel_rfl) h

theorem t_law31_SeverityBounds_1028 (r3 : ((List GJudged)) × GmarkDice) (r7 : GRatio × Bool) (x8 : Bool) (x9 : Bool) (x10 : Int) (r11 : GRatio × Bool) (r12 : GRatio × Bool) (r13 : GRatio × Bool) {y : AV × Mem} (h : (
  callD r_ref01_Less (cw f_ref01_Less [.agg (dGRatio.enc r12.fst), .agg (dGRatio.enc (⟨w64 (0 - r11.fst.Num), r11.fst.Den⟩))] []) fun (r16 : Bool) =>
  brn r16 (some (B false, []))
  (brn (!(r13.fst.Num == 1 && (r13.fst.Den == 1 && true)) == (r12.fst.Num == 0 && (r12.fst.Den == 1 && true))) (some (B false, []))
   (callD r_ref01_Less (cw f_ref01_Less [.agg (dGRatio.enc (⟨1, 1⟩)), .agg (dGRatio.enc r13.fst)] []) fun (r17 : Bool) =>
    brn r17 (some (B false, []))
    (callD r_ref01_Less (cw f_ref01_Less [.agg (dGRatio.enc r13.fst), .agg (dGRatio.enc (⟨0, 1⟩))] []) fun (r18 : Bool) =>
     brn r18 (some (B false, []))
     (brn x8 (brn x9 (k_law31_SeverityBounds_2 r3 r7 true true (w64 (x10 + 1)))
       (callD r_ref01_Less (cw f_ref01_Less [.agg (dGRatio.enc r11.fst), .agg (dGRatio.enc r7.fst)] []) fun (r19 : Bool) =>
        k_law31_SeverityBounds_2 r3 r7 true (!r19) (w64 (x10 + 1))))
      (callD r_ref01_Less (cw f_ref01_Less [.agg (dGRatio.enc r7.fst), .agg (dGRatio.enc r11.fst)] []) fun (r20 : Bool) =>
       brn x9 (k_law31_SeverityBounds_2 r3 r7 (!r20) true (w64 (x10 + 1)))
       (callD r_ref01_Less (cw f_ref01_Less [.agg (dGRatio.enc r11.fst), .agg (dGRatio.enc r7.fst)] []) fun (r21 : Bool) =>
        k_law31_SeverityBounds_2 r3 r7 (!r20) (!r21) (w64 (x10 + 1))))))))) = some y) : k_law31_SeverityBounds_1028 r3 r7 x8 x9 x10 r11 r12 r13 = some y :=
  pt_of zT [28] (by kernel_rfl) h

theorem t_law31_SeverityBounds_1028v1 (r3 : ((List GJudged)) × GmarkDice) (r7 : GRatio × Bool) (x8 : Bool) (x9 : Bool) (x10 : Int) (r11 : GRatio × Bool) (r12 : GRatio × Bool) (r13 : GRatio × Bool) {y : AV × Mem} (h : (
  callD r_ref01_Less (cw f_ref01_Less [.agg (dGRatio.enc r12.fst), .agg (dGRatio.enc r11.fst)] []) fun (r22 : Bool) =>
  brn r22 (some (B false, []))
  (brn (!(r13.fst.Num == 1 && (r13.fst.Den == 1 && true)) == (r12.fst.Num == 0 && (r12.fst.Den == 1 && true))) (some (B false, []))
   (callD r_ref01_Less (cw f_ref01_Less [.agg (dGRatio.enc (⟨1, 1⟩)), .agg (dGRatio.enc r13.fst)] []) fun (r23 : Bool) =>
    brn r23 (some (B false, []))
    (callD r_ref01_Less (cw f_ref01_Less [.agg (dGRatio.enc r13.fst), .agg (dGRatio.enc (⟨0, 1⟩))] []) fun (r24 : Bool) =>
     brn r24 (some (B false, []))
     (brn x8 (brn x9 (k_law31_SeverityBounds_2 r3 r7 true true (w64 (x10 + 1)))
       (callD r_ref01_Less (cw f_ref01_Less [.agg (dGRatio.enc r11.fst), .agg (dGRatio.enc r7.fst)] []) fun (r25 : Bool) =>
        k_law31_SeverityBounds_2 r3 r7 true (!r25) (w64 (x10 + 1))))
      (callD r_ref01_Less (cw f_ref01_Less [.agg (dGRatio.enc r7.fst), .agg (dGRatio.enc r11.fst)] []) fun (r26 : Bool) =>
       brn x9 (k_law31_SeverityBounds_2 r3 r7 (!r26) true (w64 (x10 + 1)))
       (callD r_ref01_Less (cw f_ref01_Less [.agg (dGRatio.enc r11.fst), .agg (dGRatio.enc r7.fst)] []) fun (r27 : Bool) =>
        k_law31_SeverityBounds_2 r3 r7 (!r26) (!r27) (w64 (x10 + 1))))))))) = some y) : k_law31_SeverityBounds_1028v1 r3 r7 x8 x9 x10 r11 r12 r13 = some y :=
  pt_of zT [28] (by kernel_rfl) h

theorem e_law31_SeverityBounds (a0 : List Int) {y : AV × Mem} (h : (
  callD r_mark_Light (cw f_mark_Light [.sl 1 (List.map dI_i64.enc a0)] []) fun (r0 : Bool) =>
  brn (!r0) (callD r_law31_sane (cw f_law31_sane [] []) fun (r1 : Bool) =>
   some (B r1, []))
  (callD r_mark_Roll (cw f_mark_Roll [.sl 1 (List.map dI_i64.enc a0)] []) fun (r2 : GmarkDice) =>
   callD r_law31_pairs (cw f_law31_pairs [.loc 1000 2 0 0, I 20] [(1000, ⟨2, ty_mark_Dice, [dGmarkDice.enc r2], true⟩)]) fun (r3 : ((List GJudged)) × GmarkDice) =>
   k_law31_SeverityBounds_1 r3 [] 0)) = some y) : cw f_law31_SeverityBounds [.sl 1 (List.map dI_i64.enc a0)] [] = some y :=
  callw_tree R_law31_SeverityBounds zT [28] (by kernel_rfl) (by kernel_rfl) (by kernel_rfl) (by kernel_rfl) (by kernel_rfl) h

noncomputable def k_law31_SeverityRanks_1 (r3 : ((List GJudged)) × GmarkDice) (x4 : List (List AV)) (x5 : Int) : Option (AV × Mem) := pt R_law31_SeverityRanks 1 ⟨[(3, .row 21 3 0 (List.length (List.map dGJudged.enc r3.fst))), (4, .row 4 3 0 (List.length x4)), (5, I x5)], [(4, ⟨3, ty_api_Judged, x4, false⟩), (21, ⟨3, ty_api_Judged, List.map dGJudged.enc r3.fst, false⟩)]⟩

noncomputable def k_law31_SeverityRanks_2 (r3 : ((List GJudged)) × GmarkDice) (x4 : List (List AV)) (r7 : (List Int)) (x8 : GRatio) (x9 : List (List AV)) (x10 : Int) : Option (AV × Mem) := pt R_law31_SeverityRanks 2 ⟨[(3, .sl 3 (List.take ((List.map dGJudged.enc r3.fst).length) (List.map dGJudged.enc r3.fst))), (4, .row 4 3 0 (List.length x4)), (6, .row 37 1 0 (List.length (List.map dI_i64.enc r7))), (7, .map 38), (8, .loc 8 2 0 0), (40, .row 37 1 0 (List.length (List.map dI_i64.enc r7))), (41, I ((↑(List.map dI_i64.enc r7).length : Int))), (42, I x10)], [(4, ⟨3, ty_api_Judged, x4, false⟩), (8, ⟨2, ty_api_Ratio, [dGRatio.enc x8], true⟩), (37, ⟨1, ty_i64_2, List.map dI_i64.enc r7, false⟩), (38, ⟨0, ty_M_i64_bool, x9, false⟩)]⟩

noncomputable def k_law31_SeverityRanks_1018 (r3 : ((List GJudged)) × GmarkDice) (x4 : List (List AV)) (r7 : (List Int)) (x8 : GRatio) (x9 : List (List AV)) (x10 : Int) (c11 : Int) (r12 : GRatio × Bool) : Option (AV × Mem) := pt R_law31_SeverityRanks 1018 ⟨[(3, .sl 3 (List.take ((List.map dGJudged.enc r3.fst).length) (List.map dGJudged.enc r3.fst))), (4, .row 4 3 0 (List.length x4)), (6, .row 37 1 0 (List.length (List.map dI_i64.enc r7))), (7, .map 38), (8, .loc 8 2 0 0), (9, I x10), (10, I c11), (11, .loc 11 2 0 0), (12, B r12.snd), (40, .row 37 1 0 (List.length (List.map dI_i64.enc r7))), (41, I ((↑(List.map dI_i64.enc r7).length : Int))), (42, I x10)], [(4, ⟨3, ty_api_Judged, x4, false⟩), (8, ⟨2, ty_api_Ratio, [dGRatio.enc x8], true⟩), (11, ⟨2, ty_api_Ratio, [dGRatio.enc (⟨w64 (0 - r12.fst.Num), r12.fst.Den⟩)], true⟩), (37, ⟨1, ty_i64_2, List.map dI_i64.enc r7, false⟩), (38, ⟨0, ty_M_i64_bool, x9, false⟩)]⟩

noncomputable def k_law31_SeverityRanks_1018v1 (r3 : ((List GJudged)) × GmarkDice) (x4 : List (List AV)) (r7 : (List Int)) (x8 : GRatio) (x9 : List (List AV)) (x10 : Int) (c11 : Int) (r12 : GRatio × Bool) : Option (AV × Mem) := pt R_law31_SeverityRanks 1018 ⟨[(3, .sl 3 (List.take ((List.map dGJudged.enc r3.fst).length) (List.map dGJudged.enc r3.fst))), (4, .row 4 3 0 (List.length x4)), (6, .row 37 1 0 (List.length (List.map dI_i64.enc r7))), (7, .map 38), (8, .loc 8 2 0 0), (9, I x10), (10, I c11), (11, .loc 11 2 0 0), (12, B r12.snd), (40, .row 37 1 0 (List.length (List.map dI_i64.enc r7))), (41, I ((↑(List.map dI_i64.enc r7).length : Int))), (42, I x10), (55, B false)], [(4, ⟨3, ty_api_Judged, x4, false⟩), (8, ⟨2, ty_api_Ratio, [dGRatio.enc x8], true⟩), (11, ⟨2, ty_api_Ratio, [dGRatio.enc r12.fst], true⟩), (37, ⟨1, ty_i64_2, List.map dI_i64.enc r7, false⟩), (38, ⟨0, ty_M_i64_bool, x9, false⟩)]⟩

noncomputable def k_law31_SeverityRanks_3 (r3 : ((List GJudged)) × GmarkDice) (x4 : List (List AV)) (r7 : (List Int)) (x9 : List (List AV)) (x13 : Int) : Option (AV × Mem) := pt R_law31_SeverityRanks 3 ⟨[(4, .row 4 3 0 (List.length x4)), (6, .row 37 1 0 (List.length (List.map dI_i64.enc r7))), (7, .map 38), (94, .sl 3 (List.take ((List.map dGJudged.enc r3.fst).length) (List.map dGJudged.enc r3.fst))), (95, I ((↑(List.take (List.map dGJudged.enc r3.fst).length (List.map dGJudged.enc r3.fst)).length : Int))), (96, I x13)], [(4, ⟨3, ty_api_Judged, x4, false⟩), (37, ⟨1, ty_i64_2, List.map dI_i64.enc r7, false⟩), (38, ⟨0, ty_M_i64_bool, x9, false⟩)]⟩

theorem t_law31_SeverityRanks_1 (r3 : ((List GJudged)) × GmarkDice) (x4 : List (List AV)) (x5 : Int) {y : AV × Mem} (h : (
  brn (decide (0 ≤ x5)) (chk ((0 : Int) ≤ x5) <|
   chk ((x5 : Int) < ((↑(List.map dGJudged.enc r3.fst).length : Int))) <|
   elemD dGJudged (List.map dGJudged.enc r3.fst) (0 + x5.toNat) fun (c6 : GJudged) =>
   chk (x4.length = x4.length) <|
   chk ((x4.length + 1) * (24 + 1) ≤ 1099511627776) <|
   chk ((x4 ++ [[AV.v (Go.Value.int IntKind.i64 c6.Marker), AV.v (Go.Value.int IntKind.i64 c6.Value), AV.v (Go.Value.int IntKind.i64 c6.Final)]]).length = (x4 ++ [[AV.v (Go.Value.int IntKind.i64 c6.Marker), AV.v (Go.Value.int IntKind.i64 c6.Value), AV.v (Go.Value.int IntKind.i64 c6.Final)]]).length) <|
   k_law31_SeverityRanks_1 r3 (x4 ++ ([dGJudged.enc c6])) (w64 (x5 - 1)))
  (chk (0 + (List.map dGJudged.enc r3.fst).length ≤ (List.map dGJudged.enc r3.fst).length) <|
   callD r_severity_Rank (cw f_severity_Rank [.sl 3 (List.take ((List.map dGJudged.enc r3.fst).length) (List.map dGJudged.enc r3.fst))] []) fun (r7 : (List Int)) =>
   chk (0 + (List.map dGJudged.enc r3.fst).length ≤ (List.map dGJudged.enc r3.fst).length) <|
   chk (0 + (List.map dGJudged.enc r3.fst).length ≤ (List.map dGJudged.enc r3.fst).length) <|
   k_law31_SeverityRanks_2 r3 x4 r7 (⟨100, 1⟩) [] 0)) = some y) : k_law31_SeverityRanks_1 r3 x4 x5 = some y :=
  pt_of zT [18] (by kernel_rfl) h

theorem t_law31_SeverityRanks_2 (r3 : ((List GJudged)) × GmarkDice) (x4 : List (List AV)) (r7 : (List Int)) (x8 : GRatio) (x9 : List (List AV)) (x10 : Int) {y : AV × Mem} (h : (
  brn (decide (x10 < (↑(List.map dI_i64.enc r7).length : Int))) (chk ((0 : Int) ≤ x10) <|
   chk ((x10 : Int) < ((↑(List.map dI_i64.enc r7).length : Int))) <|
   elemD dI_i64 (List.map dI_i64.enc r7) (0 + x10.toNat) fun (c11 : Int) =>
   callD r_severity_Bias (cw f_severity_Bias [.sl 3 (List.take ((List.map dGJudged.enc r3.fst).length) (List.map dGJudged.enc r3.fst)), I c11] []) fun (r12 : GRatio × Bool) =>
   brn (decide (r12.fst.Num < 0)) (k_law31_SeverityRanks_1018 r3 x4 r7 x8 x9 x10 c11 r12)
   (k_law31_SeverityRanks_1018v1 r3 x4 r7 x8 x9 x10 c11 r12))
  (k_law31_SeverityRanks_3 r3 x4 r7 x9 0)) = some y) : k_law31_SeverityRanks_2 r3 x4 r7 x8 x9 x10 = some y :=
  pt_of zT [18] (by kernel_rfl) h

theorem t_law31_SeverityRanks_1018 (r3 : ((List GJudged)) × GmarkDice) (x4 : List (List AV)) (r7 : (List Int)) (x8 : GRatio) (x9 : List (List AV)) (x10 : Int) (c11 : Int) (r12 : GRatio × Bool) {y : AV × Mem} (h : (
  brn (!r12.snd) (some (B false, []))
  (mapD zP 3 false dBool (B false) x9 (I c11) fun (c14 : Bool) (b15 : Bool) =>
   brn c14 (some (B false, []))
   (callD r_ref01_Less (cw f_ref01_Less [.agg (dGRatio.enc x8), .agg (dGRatio.enc (⟨w64 (0 - r12.fst.Num), r12.fst.Den⟩))] []) fun (r16 : Bool) =>
    brn r16 (some (B false, []))
    (brn (decide (0 < x10)) (brn (w64 (0 - r12.fst.Num) == x8.Num && (r12.fst.Den == x8.Den && true)) (chk ((0 : Int) ≤ (w64 (x10 - 1))) <|
       chk ((w64 (x10 - 1) : Int) < ((↑(List.map dI_i64.enc r7).length : Int))) <|
       elemD dI_i64 (List.map dI_i64.enc r7) (0 + (w64 (x10 - 1)).toNat) fun (c17 : Int) =>
       brn (decide (c11 ≤ c17)) (some (B false, []))
       (msetD zP 3 4 (I c11) (B true) x9 fun (m18 : List (List AV)) =>
        k_law31_SeverityRanks_2 r3 x4 r7 (⟨w64 (0 - r12.fst.Num), r12.fst.Den⟩) m18 (w64 (x10 + 1))))
      (msetD zP 3 4 (I c11) (B true) x9 fun (m19 : List (List AV)) =>
       k_law31_SeverityRanks_2 r3 x4 r7 (⟨w64 (0 - r12.fst.Num), r12.fst.Den⟩) m19 (w64 (x10 + 1))))
     (msetD zP 3 4 (I c11) (B true) x9 fun (m20 : List (List AV)) =>
      k_law31_SeverityRanks_2 r3 x4 r7 (⟨w64 (0 - r12.fst.Num), r12.fst.Den⟩) m20 (w64 (x10 + 1))))))) = some y) : k_law31_SeverityRanks_1018 r3 x4 r7 x8 x9 x10 c11 r12 = some y :=
  pt_of zT [18] (by kernel_rfl) h

theorem t_law31_SeverityRanks_1018v1 (r3 : ((List GJudged)) × GmarkDice) (x4 : List (List AV)) (r7 : (List Int)) (x8 : GRatio) (x9 : List (List AV)) (x10 : Int) (c11 : Int) (r12 : GRatio × Bool) {y : AV × Mem} (h : (
  brn (!r12.snd) (some (B false, []))
  (mapD zP 3 false dBool (B false) x9 (I c11) fun (c21 : Bool) (b22 : Bool) =>
   brn c21 (some (B false, []))
   (callD r_ref01_Less (cw f_ref01_Less [.agg (dGRatio.enc x8), .agg (dGRatio.enc r12.fst)] []) fun (r23 : Bool) =>
    brn r23 (some (B false, []))
    (brn (decide (0 < x10)) (brn (r12.fst.Num == x8.Num && (r12.fst.Den == x8.Den && true)) (chk ((0 : Int) ≤ (w64 (x10 - 1))) <|
       chk ((w64 (x10 - 1) : Int) < ((↑(List.map dI_i64.enc r7).length : Int))) <|
       elemD dI_i64 (List.map dI_i64.enc r7) (0 + (w64 (x10 - 1)).toNat) fun (c24 : Int) =>
       brn (decide (c11 ≤ c24)) (some (B false, []))
       (msetD zP 3 4 (I c11) (B true) x9 fun (m25 : List (List AV)) =>
        k_law31_SeverityRanks_2 r3 x4 r7 r12.fst m25 (w64 (x10 + 1))))
      (msetD zP 3 4 (I c11) (B true) x9 fun (m26 : List (List AV)) =>
       k_law31_SeverityRanks_2 r3 x4 r7 r12.fst m26 (w64 (x10 + 1))))
     (msetD zP 3 4 (I c11) (B true) x9 fun (m27 : List (List AV)) =>
      k_law31_SeverityRanks_2 r3 x4 r7 r12.fst m27 (w64 (x10 + 1))))))) = some y) : k_law31_SeverityRanks_1018v1 r3 x4 r7 x8 x9 x10 c11 r12 = some y :=
  pt_of zT [18] (by kernel_rfl) h

theorem t_law31_SeverityRanks_3 (r3 : ((List GJudged)) × GmarkDice) (x4 : List (List AV)) (r7 : (List Int)) (x9 : List (List AV)) (x13 : Int) {y : AV × Mem} (h : (
  brn (decide (x13 < (↑(List.take (List.map dGJudged.enc r3.fst).length (List.map dGJudged.enc r3.fst)).length : Int))) (chk ((0 : Int) ≤ x13) <|
   elemD dGJudged (List.take ((List.map dGJudged.enc r3.fst).length) (List.map dGJudged.enc r3.fst)) x13.toNat fun (c28 : GJudged) =>
   mapD zP 3 false dBool (B false) x9 (I c28.Marker) fun (c29 : Bool) (b30 : Bool) =>
   brn (!c29) (some (B false, []))
   (k_law31_SeverityRanks_3 r3 x4 r7 x9 (w64 (x13 + 1))))
  (chk (0 + x4.length ≤ x4.length) <|
   callD r_severity_Rank (cw f_severity_Rank [.sl 3 (List.take x4.length x4)] []) fun (r31 : (List Int)) =>
   chk (0 + x4.length ≤ x4.length) <|
   chk (0 + x4.length ≤ x4.length) <|
   chk (0 + (List.map dI_i64.enc r31).length ≤ (List.map dI_i64.enc r31).length) <|
   chk (0 + (List.map dI_i64.enc r7).length ≤ (List.map dI_i64.enc r7).length) <|
   callD r_law31_same (cw f_law31_same [.sl 1 (List.take ((List.map dI_i64.enc r31).length) (List.map dI_i64.enc r31)), .sl 1 (List.take ((List.map dI_i64.enc r7).length) (List.map dI_i64.enc r7))] []) fun (r32 : Bool) =>
   brn r32 (callD r_law31_sane (cw f_law31_sane [] []) fun (r33 : Bool) =>
    some (B r33, []))
   (some (B false, [])))) = some y) : k_law31_SeverityRanks_3 r3 x4 r7 x9 x13 = some y :=
  pt_of zT [18] (by kernel_rfl) h

theorem e_law31_SeverityRanks (a0 : List Int) {y : AV × Mem} (h : (
  callD r_mark_Light (cw f_mark_Light [.sl 1 (List.map dI_i64.enc a0)] []) fun (r0 : Bool) =>
  brn (!r0) (callD r_law31_sane (cw f_law31_sane [] []) fun (r1 : Bool) =>
   some (B r1, []))
  (callD r_mark_Roll (cw f_mark_Roll [.sl 1 (List.map dI_i64.enc a0)] []) fun (r2 : GmarkDice) =>
   callD r_law31_pairs (cw f_law31_pairs [.loc 1000 2 0 0, I 20] [(1000, ⟨2, ty_mark_Dice, [dGmarkDice.enc r2], true⟩)]) fun (r3 : ((List GJudged)) × GmarkDice) =>
   k_law31_SeverityRanks_1 r3 [] (w64 ((↑(List.map dGJudged.enc r3.fst).length : Int) - 1)))) = some y) : cw f_law31_SeverityRanks [.sl 1 (List.map dI_i64.enc a0)] [] = some y :=
  callw_tree R_law31_SeverityRanks zT [18] (by kernel_rfl) (by kernel_rfl) (by kernel_rfl) (by kernel_rfl) (by kernel_rfl) h

noncomputable def k_law31_SeverityKappa_1 (a0 : List Int) (a1 : List Int) (a2 : Int) (x2 : List (List AV)) (x3 : List (List AV)) (x4 : List (List AV)) (x5 : List (List AV)) (x6 : Int) : Option (AV × Mem) := pt R_law31_SeverityKappa 1 ⟨[(0, .sl 1 (List.map dI_u8.enc a0)), (1, .sl 1 (List.map dI_u8.enc a1)), (2, .v (.int .u8 a2)), (7, .row 7 1 0 (List.length x2)), (8, .row 8 1 0 (List.length x3)), (9, .row 9 1 0 (List.length x4)), (10, .row 10 1 0 (List.length x5)), (31, I ((↑(List.map dI_u8.enc a0).length : Int))), (32, I x6)], [(7, ⟨1, ty_i64_2, x2, false⟩), (8, ⟨1, ty_i64_2, x3, false⟩), (9, ⟨1, ty_i64_2, x4, false⟩), (10, ⟨1, ty_i64_2, x5, false⟩)]⟩

theorem t_law31_SeverityKappa_1 (a0 : List Int) (a1 : List Int) (a2 : Int) (x2 : List (List AV)) (x3 : List (List AV)) (x4 : List (List AV)) (x5 : List (List AV)) (x6 : Int) {y : AV × Mem} (h : (
  brn (decide (x6 < (↑(List.map dI_u8.enc a0).length : Int))) (chk ((0 : Int) ≤ x6) <|
   elemD dI_u8 (List.map dI_u8.enc a0) x6.toNat fun (c7 : Int) =>
   chk ((3 : Int) ≠ 0) <|
   chk (x2.length = x2.length) <|
   chk ((x2.length + 1) * (8 + 1) ≤ 1099511627776) <|
   chk ((0 : Int) ≤ x6) <|
   elemD dI_u8 (List.map dI_u8.enc a1) x6.toNat fun (c8 : Int) =>
   chk ((3 : Int) ≠ 0) <|
   chk (x3.length = x3.length) <|
   chk ((x3.length + 1) * (8 + 1) ≤ 1099511627776) <|
   chk ((x2 ++ [[AV.v (Go.Value.int IntKind.i64 (w64 (Int.tmod c7 3)))]]).length = (x2 ++ [[AV.v (Go.Value.int IntKind.i64 (w64 (Int.tmod c7 3)))]]).length) <|
   chk ((x3 ++ [[AV.v (Go.Value.int IntKind.i64 (w64 (Int.tmod c8 3)))]]).length = (x3 ++ [[AV.v (Go.Value.int IntKind.i64 (w64 (Int.tmod c8 3)))]]).length) <|
   chk ((30 : Int) ≠ 0) <|
   chk ((0 : Int) ≤ x6) <|
   chk ((x6 : Int) < ((↑(x2 ++ [[AV.v (Go.Value.int IntKind.i64 (w64 (Int.tmod c7 3)))]]).length : Int))) <|
   elemD dI_i64 (x2 ++ ([dI_i64.enc (w64 (Int.tmod c7 3))])) (0 + x6.toNat) fun (c9 : Int) =>
   chk (x4.length = x4.length) <|
   chk ((x4.length + 1) * (8 + 1) ≤ 1099511627776) <|
   chk ((30 : Int) ≠ 0) <|
   chk ((0 : Int) ≤ x6) <|
   chk ((x6 : Int) < ((↑(x3 ++ [[AV.v (Go.Value.int IntKind.i64 (w64 (Int.tmod c8 3)))]]).length : Int))) <|
   elemD dI_i64 (x3 ++ ([dI_i64.enc (w64 (Int.tmod c8 3))])) (0 + x6.toNat) fun (c10 : Int) =>
   chk (x5.length = x5.length) <|
   chk ((x5.length + 1) * (8 + 1) ≤ 1099511627776) <|
   chk ((x4 ++ [[AV.v (Go.Value.int IntKind.i64 (w64 (w64 (a2.tmod 30) + w64 (2 * c9))))]]).length = (x4 ++ [[AV.v (Go.Value.int IntKind.i64 (w64 (w64 (a2.tmod 30) + w64 (2 * c9))))]]).length) <|
   chk ((x5 ++ [[AV.v (Go.Value.int IntKind.i64 (w64 (w64 (a2.tmod 30) + w64 (2 * c10))))]]).length = (x5 ++ [[AV.v (Go.Value.int IntKind.i64 (w64 (w64 (a2.tmod 30) + w64 (2 * c10))))]]).length) <|
   k_law31_SeverityKappa_1 a0 a1 a2 (x2 ++ ([dI_i64.enc (w64 (Int.tmod c7 3))])) (x3 ++ ([dI_i64.enc (w64 (Int.tmod c8 3))])) (x4 ++ ([dI_i64.enc (w64 (w64 (a2.tmod 30) + w64 (2 * c9)))])) (x5 ++ ([dI_i64.enc (w64 (w64 (a2.tmod 30) + w64 (2 * c10)))])) (w64 (x6 + 1)))
  (chk (0 + x2.length ≤ x2.length) <|
   chk (0 + x3.length ≤ x3.length) <|
   callD r_severity_Kappa (cw f_severity_Kappa [.sl 1 (List.take x2.length x2), .sl 1 (List.take x3.length x3)] []) fun (r11 : GRatio × Bool) =>
   chk (0 + x3.length ≤ x3.length) <|
   chk (0 + x2.length ≤ x2.length) <|
   callD r_severity_Kappa (cw f_severity_Kappa [.sl 1 (List.take x3.length x3), .sl 1 (List.take x2.length x2)] []) fun (r12 : GRatio × Bool) =>
   chk (0 + x4.length ≤ x4.length) <|
   chk (0 + x5.length ≤ x5.length) <|
   callD r_severity_Kappa (cw f_severity_Kappa [.sl 1 (List.take x4.length x4), .sl 1 (List.take x5.length x5)] []) fun (r13 : GRatio × Bool) =>
   brn (r11.fst.Num == r12.fst.Num && (r11.fst.Den == r12.fst.Den && true)) (brn (r11.snd == r12.snd) (brn (r11.fst.Num == r13.fst.Num && (r11.fst.Den == r13.fst.Den && true)) (brn (r11.snd == r13.snd) (brn (!r11.snd) (callD r_law31_sane (cw f_law31_sane [] []) fun (r14 : Bool) =>
        some (B r14, []))
       (callD r_ref01_Less (cw f_ref01_Less [.agg (dGRatio.enc (⟨1, 1⟩)), .agg (dGRatio.enc r11.fst)] []) fun (r15 : Bool) =>
        brn (!r15) (chk (0 + x2.length ≤ x2.length) <|
         chk (0 + x3.length ≤ x3.length) <|
         callD r_law31_same (cw f_law31_same [.sl 1 (List.take x2.length x2), .sl 1 (List.take x3.length x3)] []) fun (r16 : Bool) =>
         brn ((r11.fst.Num == 1 && (r11.fst.Den == 1 && true)) == r16) (callD r_law31_sane (cw f_law31_sane [] []) fun (r17 : Bool) =>
          some (B r17, []))
         (some (B false, [])))
        (some (B false, []))))
      (some (B false, [])))
     (some (B false, [])))
    (some (B false, [])))
   (some (B false, [])))) = some y) : k_law31_SeverityKappa_1 a0 a1 a2 x2 x3 x4 x5 x6 = some y :=
  pt_of zT [] (by kernel_rfl) h

theorem e_law31_SeverityKappa (a0 : List Int) (a1 : List Int) (a2 : Int) {y : AV × Mem} (h : (
  brn ((↑(List.map dI_u8.enc a0).length : Int) != (↑(List.map dI_u8.enc a1).length : Int)) (callD r_law31_sane (cw f_law31_sane [] []) fun (r0 : Bool) =>
   some (B r0, []))
  (brn (decide (40 < (↑(List.map dI_u8.enc a0).length : Int))) (callD r_law31_sane (cw f_law31_sane [] []) fun (r1 : Bool) =>
    some (B r1, []))
   (k_law31_SeverityKappa_1 a0 a1 a2 [] [] [] [] 0))) = some y) : cw f_law31_SeverityKappa [.sl 1 (List.map dI_u8.enc a0), .sl 1 (List.map dI_u8.enc a1), .v (.int .u8 a2)] [] = some y :=
  callw_tree R_law31_SeverityKappa zT [] (by kernel_rfl) (by kernel_rfl) (by kernel_rfl) (by kernel_rfl) (by kernel_rfl) h

theorem e_mark_Light (a0 : List Int) {y : AV × Mem} (h : (
  some (B (decide ((↑(List.map dI_i64.enc a0).length : Int) ≤ 600)), [])) = some y) : cw f_mark_Light [.sl 1 (List.map dI_i64.enc a0)] [] = some y :=
  callw_tree R_mark_Light zT [] (by kernel_rfl) (by kernel_rfl) (by kernel_rfl) (by kernel_rfl) (by kernel_rfl) h

theorem e_law31_sane {y : AV × Mem} (h : (
  callD r_severity_Bias (cw f_severity_Bias [.sl 3 (List.map dGJudged.enc ([⟨1, 3, 2⟩, ⟨1, 1, 2⟩, ⟨1, 2, 2⟩, ⟨1, 4, 2⟩, ⟨2, 0, 3⟩])), I 1] []) fun (r0 : GRatio × Bool) =>
  callD r_severity_Spread (cw f_severity_Spread [.sl 3 (List.map dGJudged.enc ([⟨1, 3, 2⟩, ⟨1, 1, 2⟩, ⟨1, 2, 2⟩, ⟨1, 4, 2⟩, ⟨2, 0, 3⟩])), I 1] []) fun (r1 : GRatio × Bool) =>
  callD r_severity_Agreement (cw f_severity_Agreement [.sl 3 (List.map dGJudged.enc ([⟨1, 3, 2⟩, ⟨1, 1, 2⟩, ⟨1, 2, 2⟩, ⟨1, 4, 2⟩, ⟨2, 0, 3⟩])), I 1] []) fun (r2 : GRatio × Bool) =>
  callD r_severity_Kappa (cw f_severity_Kappa [.sl 1 (List.map dI_i64.enc ([0, 0, 1, 1])), .sl 1 (List.map dI_i64.enc ([0, 1, 1, 1]))] []) fun (r3 : GRatio × Bool) =>
  brn r0.snd (brn r1.snd (brn r2.snd (brn r3.snd (brn (r0.fst.Num == 1 && (r0.fst.Den == 2 && true)) (brn (r1.fst.Num == 1 && (r1.fst.Den == 1 && true)) (brn (r2.fst.Num == 1 && (r2.fst.Den == 4 && true)) (brn (r3.fst.Num == 1 && (r3.fst.Den == 2 && true)) (callD r_severity_Rank (cw f_severity_Rank [.sl 3 (List.map dGJudged.enc ([⟨1, 3, 2⟩, ⟨1, 1, 2⟩, ⟨1, 2, 2⟩, ⟨1, 4, 2⟩, ⟨2, 0, 3⟩]))] []) fun (r4 : (List Int)) =>
          chk (0 + (List.map dI_i64.enc r4).length ≤ (List.map dI_i64.enc r4).length) <|
          callD r_law31_same (cw f_law31_same [.sl 1 (List.take ((List.map dI_i64.enc r4).length) (List.map dI_i64.enc r4)), .sl 1 (List.map dI_i64.enc ([2, 1]))] []) fun (r5 : Bool) =>
          some (B r5, []))
         (some (B false, [])))
        (some (B false, [])))
       (some (B false, [])))
      (some (B false, [])))
     (some (B false, [])))
    (some (B false, [])))
   (some (B false, [])))
  (some (B false, []))) = some y) : cw f_law31_sane [] [] = some y :=
  callw_tree R_law31_sane zT [] (by kernel_rfl) (by kernel_rfl) (by kernel_rfl) (by kernel_rfl) (by kernel_rfl) h

noncomputable def k_law31_pairs_1 (x1 : List (List AV)) (x2 : GmarkDice) (x3 : Int) : Option (AV × Mem) := pt R_law31_pairs 1 ⟨[(0, .loc 1000 2 0 0), (5, .row 5 3 0 (List.length x1)), (6, I x3)], [(5, ⟨3, ty_api_Judged, x1, false⟩), (1000, ⟨2, ty_mark_Dice, [dGmarkDice.enc x2], true⟩)]⟩

theorem t_law31_pairs_1 (x1 : List (List AV)) (x2 : GmarkDice) (x3 : Int) {y : AV × Mem} (h : (
  brn (decide (0 < x3)) (callD r_mark_Dice_Next (cw f_mark_Dice_Next [.loc 1000 2 0 0, I 4] [(1000, ⟨2, ty_mark_Dice, [dGmarkDice.enc x2], true⟩)]) fun (r4 : Int × GmarkDice) =>
   callD r_mark_Dice_Next (cw f_mark_Dice_Next [.loc 1000 2 0 0, I 7] [(1000, ⟨2, ty_mark_Dice, [dGmarkDice.enc r4.snd], true⟩)]) fun (r5 : Int × GmarkDice) =>
   callD r_mark_Dice_Next (cw f_mark_Dice_Next [.loc 1000 2 0 0, I 7] [(1000, ⟨2, ty_mark_Dice, [dGmarkDice.enc r5.snd], true⟩)]) fun (r6 : Int × GmarkDice) =>
   chk (x1.length = x1.length) <|
   chk ((x1.length + 1) * (24 + 1) ≤ 1099511627776) <|
   chk ((x1 ++ [[AV.v (Go.Value.int IntKind.i64 (w64 (1 + r4.fst))), AV.v (Go.Value.int IntKind.i64 r5.fst), AV.v (Go.Value.int IntKind.i64 r6.fst)]]).length = (x1 ++ [[AV.v (Go.Value.int IntKind.i64 (w64 (1 + r4.fst))), AV.v (Go.Value.int IntKind.i64 r5.fst), AV.v (Go.Value.int IntKind.i64 r6.fst)]]).length) <|
   k_law31_pairs_1 (x1 ++ ([dGJudged.enc (⟨w64 (1 + r4.fst), r5.fst, r6.fst⟩)])) r6.snd (w64 (x3 - 1)))
  (chk (x1.length = x1.length) <|
   some (.new 3 ty_api_Judged x1, [(1000, ⟨2, ty_mark_Dice, [dGmarkDice.enc x2], true⟩)]))) = some y) : k_law31_pairs_1 x1 x2 x3 = some y :=
  pt_of zT [] (by kernel_rfl) h

theorem e_law31_pairs (a0 : GmarkDice) (a1 : Int) {y : AV × Mem} (h : (
  callD r_mark_Dice_Next (cw f_mark_Dice_Next [.loc 1000 2 0 0, I (w64 (a1 + 1))] [(1000, ⟨2, ty_mark_Dice, [dGmarkDice.enc a0], true⟩)]) fun (r0 : Int × GmarkDice) =>
  k_law31_pairs_1 [] r0.snd r0.fst) = some y) : cw f_law31_pairs [.loc 1000 2 0 0, I a1] [(1000, ⟨2, ty_mark_Dice, [dGmarkDice.enc a0], true⟩)] = some y :=
  callw_tree R_law31_pairs zT [] (by kernel_rfl) (by kernel_rfl) (by kernel_rfl) (by kernel_rfl) (by kernel_rfl) h

theorem e_mark_Roll (a0 : List Int) {y : AV × Mem} (h : (
  some (.newp 2 ty_mark_Dice (dGmarkDice.enc (⟨a0, 0⟩)), [])) = some y) : cw f_mark_Roll [.sl 1 (List.map dI_i64.enc a0)] [] = some y :=
  callw_tree R_mark_Roll zT [] (by kernel_rfl) (by kernel_rfl) (by kernel_rfl) (by kernel_rfl) (by kernel_rfl) h

theorem e_severity_Bias (a0 : List GJudged) (a1 : Int) {y : AV × Mem} (h : (
  callD r_severity_mean (cw f_severity_mean [.sl 3 (List.map dGJudged.enc a0), I a1, .fn f_severity_Bias_1 []] []) fun (r0 : GRatio × Bool) =>
  some (.tup [.agg (dGRatio.enc r0.fst), B r0.snd], [])) = some y) : cw f_severity_Bias [.sl 3 (List.map dGJudged.enc a0), I a1] [] = some y :=
  callw_tree R_severity_Bias zT [] (by kernel_rfl) (by kernel_rfl) (by kernel_rfl) (by kernel_rfl) (by kernel_rfl) h

theorem e_severity_Spread (a0 : List GJudged) (a1 : Int) {y : AV × Mem} (h : (
  callD r_severity_mean (cw f_severity_mean [.sl 3 (List.map dGJudged.enc a0), I a1, .fn f_severity_Spread_1 []] []) fun (r0 : GRatio × Bool) =>
  some (.tup [.agg (dGRatio.enc r0.fst), B r0.snd], [])) = some y) : cw f_severity_Spread [.sl 3 (List.map dGJudged.enc a0), I a1] [] = some y :=
  callw_tree R_severity_Spread zT [] (by kernel_rfl) (by kernel_rfl) (by kernel_rfl) (by kernel_rfl) (by kernel_rfl) h

theorem e_severity_Agreement (a0 : List GJudged) (a1 : Int) {y : AV × Mem} (h : (
  callD r_severity_mean (cw f_severity_mean [.sl 3 (List.map dGJudged.enc a0), I a1, .fn f_severity_Agreement_1 []] []) fun (r0 : GRatio × Bool) =>
  some (.tup [.agg (dGRatio.enc r0.fst), B r0.snd], [])) = some y) : cw f_severity_Agreement [.sl 3 (List.map dGJudged.enc a0), I a1] [] = some y :=
  callw_tree R_severity_Agreement zT [] (by kernel_rfl) (by kernel_rfl) (by kernel_rfl) (by kernel_rfl) (by kernel_rfl) h

theorem e_ref01_Less (a0 : GRatio) (a1 : GRatio) {y : AV × Mem} (h : (
  callD r_ref01_Compare (cw f_ref01_Compare [.agg (dGRatio.enc a0), .agg (dGRatio.enc a1)] []) fun (r0 : Int) =>
  some (B (decide (r0 < 0)), [])) = some y) : cw f_ref01_Less [.agg (dGRatio.enc a0), .agg (dGRatio.enc a1)] [] = some y :=
  callw_tree R_ref01_Less zT [] (by kernel_rfl) (by kernel_rfl) (by kernel_rfl) (by kernel_rfl) (by kernel_rfl) h

noncomputable def k_severity_Rank_1 (a0 : List GJudged) (x1 : List (List AV)) (x2 : List (List AV)) (x3 : Int) : Option (AV × Mem) := pt R_severity_Rank 1 ⟨[(0, .sl 3 (List.map dGJudged.enc a0)), (3, .row 3 1 0 (List.length x1)), (4, .loc 4 2 0 0), (12, .sl 3 (List.map dGJudged.enc a0)), (13, I ((↑(List.map dGJudged.enc a0).length : Int))), (14, I x3)], [(3, ⟨1, ty_i64_2, x1, false⟩), (4, ⟨2, ty_A100_api_Ratio, x2, false⟩)]⟩

theorem t_severity_Rank_1 (a0 : List GJudged) (x1 : List (List AV)) (x2 : List (List AV)) (x3 : Int) {y : AV × Mem} (h : (
  brn (decide (x3 < (↑(List.map dGJudged.enc a0).length : Int))) (chk ((0 : Int) ≤ x3) <|
   elemD dGJudged (List.map dGJudged.enc a0) x3.toNat fun (c4 : GJudged) =>
   chk ((0 : Int) ≤ c4.Marker) <|
   chk ((c4.Marker : Int) < (↑100 : Int)) <|
   elemD dGRatio x2 (0 + c4.Marker.toNat) fun (c5 : GRatio) =>
   brn (c5.Den != 0) (k_severity_Rank_1 a0 x1 x2 (w64 (x3 + 1)))
   (callD r_severity_Bias (cw f_severity_Bias [.sl 3 (List.map dGJudged.enc a0), I c4.Marker] []) fun (r6 : GRatio × Bool) =>
    chk ((0 : Int) ≤ c4.Marker) <|
    chk ((c4.Marker : Int) < (↑100 : Int)) <|
    elemD dGRatio x2 (0 + c4.Marker.toNat) fun (c7 : GRatio) =>
    chk (x1.length = x1.length) <|
    chk ((x1.length + 1) * (8 + 1) ≤ 1099511627776) <|
    chk ((x1 ++ [[AV.v (Go.Value.int IntKind.i64 c4.Marker)]]).length = (x1 ++ [[AV.v (Go.Value.int IntKind.i64 c4.Marker)]]).length) <|
    k_severity_Rank_1 a0 (x1 ++ ([dI_i64.enc c4.Marker])) (List.set x2 (0 + c4.Marker.toNat) (dGRatio.enc (⟨if w64 (0 - r6.fst.Num) > r6.fst.Num then w64 (0 - r6.fst.Num) else r6.fst.Num, r6.fst.Den⟩))) (w64 (x3 + 1))))
  (chk (0 < x2.length) <|
   callD r_slices_SortFunc_int_int (cw f_slices_SortFunc_int_int [.row 1000 1 0 (List.length x1), .fn f_severity_Rank_1 [.fa 2 x2]] [(1000, ⟨1, ty_i64_2, x1, false⟩)]) fun (r8 : (List Int)) =>
   chk (0 < x2.length) <|
   chk (0 < x2.length) <|
   chk (x1.length = (List.map dI_i64.enc r8).length) <|
   some (.new 1 ty_i64_2 (List.map dI_i64.enc r8), []))) = some y) : k_severity_Rank_1 a0 x1 x2 x3 = some y :=
  pt_of zT [] (by kernel_rfl) h

theorem e_severity_Rank (a0 : List GJudged) {y : AV × Mem} (h : (
  callD r_severity_right (cw f_severity_right [.sl 3 (List.map dGJudged.enc a0)] []) fun (r0 : Bool) =>
  brn (!r0) (some (.new 1 ty_i64_2 [], []))
  (k_severity_Rank_1 a0 [] ([dGRatio.enc (⟨0, 0⟩), dGRatio.enc (⟨0, 0⟩), dGRatio.enc (⟨0, 0⟩), dGRatio.enc (⟨0, 0⟩), dGRatio.enc (⟨0, 0⟩), dGRatio.enc (⟨0, 0⟩), dGRatio.enc (⟨0, 0⟩), dGRatio.enc (⟨0, 0⟩), dGRatio.enc (⟨0, 0⟩), dGRatio.enc (⟨0, 0⟩), dGRatio.enc (⟨0, 0⟩), dGRatio.enc (⟨0, 0⟩), dGRatio.enc (⟨0, 0⟩), dGRatio.enc (⟨0, 0⟩), dGRatio.enc (⟨0, 0⟩), dGRatio.enc (⟨0, 0⟩), dGRatio.enc (⟨0, 0⟩), dGRatio.enc (⟨0, 0⟩), dGRatio.enc (⟨0, 0⟩), dGRatio.enc (⟨0, 0⟩), dGRatio.enc (⟨0, 0⟩), dGRatio.enc (⟨0, 0⟩), dGRatio.enc (⟨0, 0⟩), dGRatio.enc (⟨0, 0⟩), dGRatio.enc (⟨0, 0⟩), dGRatio.enc (⟨0, 0⟩), dGRatio.enc (⟨0, 0⟩), dGRatio.enc (⟨0, 0⟩), dGRatio.enc (⟨0, 0⟩), dGRatio.enc (⟨0, 0⟩), dGRatio.enc (⟨0, 0⟩), dGRatio.enc (⟨0, 0⟩), dGRatio.enc (⟨0, 0⟩), dGRatio.enc (⟨0, 0⟩), dGRatio.enc (⟨0, 0⟩), dGRatio.enc (⟨0, 0⟩), dGRatio.enc (⟨0, 0⟩), dGRatio.enc (⟨0, 0⟩), dGRatio.enc (⟨0, 0⟩), dGRatio.enc (⟨0, 0⟩), dGRatio.enc (⟨0, 0⟩), dGRatio.enc (⟨0, 0⟩), dGRatio.enc (⟨0, 0⟩), dGRatio.enc (⟨0, 0⟩), dGRatio.enc (⟨0, 0⟩), dGRatio.enc (⟨0, 0⟩), dGRatio.enc (⟨0, 0⟩), dGRatio.enc (⟨0, 0⟩), dGRatio.enc (⟨0, 0⟩), dGRatio.enc (⟨0, 0⟩), dGRatio.enc (⟨0, 0⟩), dGRatio.enc (⟨0, 0⟩), dGRatio.enc (⟨0, 0⟩), dGRatio.enc (⟨0, 0⟩), dGRatio.enc (⟨0, 0⟩), dGRatio.enc (⟨0, 0⟩), dGRatio.enc (⟨0, 0⟩), dGRatio.enc (⟨0, 0⟩), dGRatio.enc (⟨0, 0⟩), dGRatio.enc (⟨0, 0⟩), dGRatio.enc (⟨0, 0⟩), dGRatio.enc (⟨0, 0⟩), dGRatio.enc (⟨0, 0⟩), dGRatio.enc (⟨0, 0⟩), dGRatio.enc (⟨0, 0⟩), dGRatio.enc (⟨0, 0⟩), dGRatio.enc (⟨0, 0⟩), dGRatio.enc (⟨0, 0⟩), dGRatio.enc (⟨0, 0⟩), dGRatio.enc (⟨0, 0⟩), dGRatio.enc (⟨0, 0⟩), dGRatio.enc (⟨0, 0⟩), dGRatio.enc (⟨0, 0⟩), dGRatio.enc (⟨0, 0⟩), dGRatio.enc (⟨0, 0⟩), dGRatio.enc (⟨0, 0⟩), dGRatio.enc (⟨0, 0⟩), dGRatio.enc (⟨0, 0⟩), dGRatio.enc (⟨0, 0⟩), dGRatio.enc (⟨0, 0⟩), dGRatio.enc (⟨0, 0⟩), dGRatio.enc (⟨0, 0⟩), dGRatio.enc (⟨0, 0⟩), dGRatio.enc (⟨0, 0⟩), dGRatio.enc (⟨0, 0⟩), dGRatio.enc (⟨0, 0⟩), dGRatio.enc (⟨0, 0⟩), dGRatio.enc (⟨0, 0⟩), dGRatio.enc (⟨0, 0⟩), dGRatio.enc (⟨0, 0⟩), dGRatio.enc (⟨0, 0⟩), dGRatio.enc (⟨0, 0⟩), dGRatio.enc (⟨0, 0⟩), dGRatio.enc (⟨0, 0⟩), dGRatio.enc (⟨0, 0⟩), dGRatio.enc (⟨0, 0⟩), dGRatio.enc (⟨0, 0⟩), dGRatio.enc (⟨0, 0⟩), dGRatio.enc (⟨0, 0⟩), dGRatio.enc (⟨0, 0⟩)]) 0)) = some y) : cw f_severity_Rank [.sl 3 (List.map dGJudged.enc a0)] [] = some y :=
  callw_tree R_severity_Rank zT [] (by kernel_rfl) (by kernel_rfl) (by kernel_rfl) (by kernel_rfl) (by kernel_rfl) h

noncomputable def k_law31_same_1 (a0 : List Int) (a1 : List Int) (x0 : Int) : Option (AV × Mem) := pt R_law31_same 1 ⟨[(0, .sl 1 (List.map dI_i64.enc a0)), (1, .sl 1 (List.map dI_i64.enc a1)), (12, I ((↑(List.map dI_i64.enc a0).length : Int))), (13, I x0)], []⟩

theorem t_law31_same_1 (a0 : List Int) (a1 : List Int) (x0 : Int) {y : AV × Mem} (h : (
  brn (decide (x0 < (↑(List.map dI_i64.enc a0).length : Int))) (chk ((0 : Int) ≤ x0) <|
   elemD dI_i64 (List.map dI_i64.enc a0) x0.toNat fun (c1 : Int) =>
   chk ((0 : Int) ≤ x0) <|
   elemD dI_i64 (List.map dI_i64.enc a1) x0.toNat fun (c2 : Int) =>
   brn (c1 != c2) (some (B false, []))
   (k_law31_same_1 a0 a1 (w64 (x0 + 1))))
  (some (B true, []))) = some y) : k_law31_same_1 a0 a1 x0 = some y :=
  pt_of zT [] (by kernel_rfl) h

theorem e_law31_same (a0 : List Int) (a1 : List Int) {y : AV × Mem} (h : (
  brn ((↑(List.map dI_i64.enc a0).length : Int) != (↑(List.map dI_i64.enc a1).length : Int)) (some (B false, []))
  (k_law31_same_1 a0 a1 0)) = some y) : cw f_law31_same [.sl 1 (List.map dI_i64.enc a0), .sl 1 (List.map dI_i64.enc a1)] [] = some y :=
  callw_tree R_law31_same zT [] (by kernel_rfl) (by kernel_rfl) (by kernel_rfl) (by kernel_rfl) (by kernel_rfl) h

end Go.Proofs.Ytohpjbokhcifbaa
