/- What the functions compute, between two cut points: printed by a program, checked by the kernel. -/
import Derived.Test.YtiienbfdcgipnaaAnn
namespace Go.Proofs.Ytiienbfdcgipnaa
open Go.Ab
set_option maxRecDepth 100000
set_option linter.unusedVariables false

noncomputable def k_slices_breakPatternsCmpFunc_api_Ratio_1 (a0 : List GRatio) (a1 : Int) (a2 : Int) (r0 : Int) (x1 : Int) (x2 : List (List AV)) (x3 : Int) : Option (AV × Mem) := pt R_slices_breakPatternsCmpFunc_api_Ratio 1 ⟨[(0, .row 1000 2 0 ((List.map dGRatio.enc a0).length)), (1, I a1), (8, I (w64 (a2 - a1))), (9, .loc 9 1 0 0), (10, .v (.int .u64 r0)), (11, I x3)], [(9, ⟨1, ty_slices_xorshift, [dI_u64.enc x1], true⟩), (1000, ⟨2, ty_api_Ratio, x2, false⟩)]⟩

noncomputable def k_slices_breakPatternsCmpFunc_api_Ratio_1010 (a0 : List GRatio) (a1 : Int) (a2 : Int) (r0 : Int) (x2 : List (List AV)) (x3 : Int) (r4 : Int × Int) : Option (AV × Mem) := pt R_slices_breakPatternsCmpFunc_api_Ratio 1010 ⟨[(0, .row 1000 2 0 ((List.map dGRatio.enc a0).length)), (1, I a1), (8, I (w64 (a2 - a1))), (9, .loc 9 1 0 0), (10, .v (.int .u64 r0)), (11, I x3), (12, I (w64 (w64 (wu64 (↑((r4.fst % Int.ofNat (2 ^ 64)).toNat &&& (wu64 (r0 - 1) % Int.ofNat (2 ^ 64)).toNat) : Int)) - w64 (a2 - a1))))], [(9, ⟨1, ty_slices_xorshift, [dI_u64.enc r4.snd], true⟩), (1000, ⟨2, ty_api_Ratio, x2, false⟩)]⟩

noncomputable def k_slices_breakPatternsCmpFunc_api_Ratio_1010v1 (a0 : List GRatio) (a1 : Int) (a2 : Int) (r0 : Int) (x2 : List (List AV)) (x3 : Int) (r4 : Int × Int) : Option (AV × Mem) := pt R_slices_breakPatternsCmpFunc_api_Ratio 1010 ⟨[(0, .row 1000 2 0 ((List.map dGRatio.enc a0).length)), (1, I a1), (8, I (w64 (a2 - a1))), (9, .loc 9 1 0 0), (10, .v (.int .u64 r0)), (11, I x3), (12, I (w64 (wu64 (↑((r4.fst % Int.ofNat (2 ^ 64)).toNat &&& (wu64 (r0 - 1) % Int.ofNat (2 ^ 64)).toNat) : Int)))), (45, B false)], [(9, ⟨1, ty_slices_xorshift, [dI_u64.enc r4.snd], true⟩), (1000, ⟨2, ty_api_Ratio, x2, false⟩)]⟩

theorem t_slices_breakPatternsCmpFunc_api_Ratio_1 (a0 : List GRatio) (a1 : Int) (a2 : Int) (r0 : Int) (x1 : Int) (x2 : List (List AV)) (x3 : Int) {y : AV × Mem} (h : (
  chk ((4 : Int) ≠ 0) <|
  brn (decide (x3 ≤ w64 (w64 (a1 + w64 (w64 ((w64 (a2 - a1)).tdiv 4) * 2)) + 1))) (callD r_slices_xorshift_Next (cw f_slices_xorshift_Next [.loc 1000 1 0 0] [(1000, ⟨1, ty_slices_xorshift, [dI_u64.enc x1], true⟩)]) fun (r4 : Int × Int) =>
   brn (decide (w64 (a2 - a1) ≤ w64 (wu64 (↑((r4.fst % Int.ofNat (2 ^ 64)).toNat &&& (wu64 (r0 - 1) % Int.ofNat (2 ^ 64)).toNat) : Int)))) (k_slices_breakPatternsCmpFunc_api_Ratio_1010 a0 a1 a2 r0 x2 x3 r4)
   (k_slices_breakPatternsCmpFunc_api_Ratio_1010v1 a0 a1 a2 r0 x2 x3 r4))
  (some (.tup [], [(1000, ⟨2, ty_api_Ratio, x2, false⟩)]))) = some y) : k_slices_breakPatternsCmpFunc_api_Ratio_1 a0 a1 a2 r0 x1 x2 x3 = some y :=
  pt_of zT [10] (by kernel_rfl) h

theorem t_slices_breakPatternsCmpFunc_api_Ratio_1010 (a0 : List GRatio) (a1 : Int) (a2 : Int) (r0 : Int) (x2 : List (List AV)) (x3 : Int) (r4 : Int × Int) {y : AV × Mem} (h : (
  chk ((0 : Int) ≤ (w64 (a1 + w64 (w64 (wu64 (↑((r4.fst % Int.ofNat (2 ^ 64)).toNat &&& (wu64 (r0 - 1) % Int.ofNat (2 ^ 64)).toNat) : Int)) - w64 (a2 - a1))))) <|
  chk ((w64 (a1 + w64 (w64 (wu64 (↑((r4.fst % Int.ofNat (2 ^ 64)).toNat &&& (wu64 (r0 - 1) % Int.ofNat (2 ^ 64)).toNat) : Int)) - w64 (a2 - a1))) : Int) < ((↑(List.map dGRatio.enc a0).length : Int))) <|
  elemD dGRatio x2 (0 + (w64 (a1 + w64 (w64 (wu64 (↑((r4.fst % Int.ofNat (2 ^ 64)).toNat &&& (wu64 (r0 - 1) % Int.ofNat (2 ^ 64)).toNat) : Int)) - w64 (a2 - a1)))).toNat) fun (c5 : GRatio) =>
  chk ((0 : Int) ≤ x3) <|
  chk ((x3 : Int) < ((↑(List.map dGRatio.enc a0).length : Int))) <|
  elemD dGRatio x2 (0 + x3.toNat) fun (c6 : GRatio) =>
  chk ((0 : Int) ≤ x3) <|
  chk ((x3 : Int) < ((↑(List.map dGRatio.enc a0).length : Int))) <|
  elemD dGRatio x2 (0 + x3.toNat) fun (c7 : GRatio) =>
  chk ((0 : Int) ≤ (w64 (a1 + w64 (w64 (wu64 (↑((r4.fst % Int.ofNat (2 ^ 64)).toNat &&& (wu64 (r0 - 1) % Int.ofNat (2 ^ 64)).toNat) : Int)) - w64 (a2 - a1))))) <|
  chk ((w64 (a1 + w64 (w64 (wu64 (↑((r4.fst % Int.ofNat (2 ^ 64)).toNat &&& (wu64 (r0 - 1) % Int.ofNat (2 ^ 64)).toNat) : Int)) - w64 (a2 - a1))) : Int) < ((↑(List.map dGRatio.enc a0).length : Int))) <|
  elemD dGRatio (List.set x2 (0 + x3.toNat) (dGRatio.enc c5)) (0 + (w64 (a1 + w64 (w64 (wu64 (↑((r4.fst % Int.ofNat (2 ^ 64)).toNat &&& (wu64 (r0 - 1) % Int.ofNat (2 ^ 64)).toNat) : Int)) - w64 (a2 - a1)))).toNat) fun (c8 : GRatio) =>
  k_slices_breakPatternsCmpFunc_api_Ratio_1 a0 a1 a2 r0 r4.snd (List.set (List.set x2 (0 + x3.toNat) (dGRatio.enc c5)) (0 + (w64 (a1 + w64 (w64 (wu64 (↑((r4.fst % Int.ofNat (2 ^ 64)).toNat &&& (wu64 (r0 - 1) % Int.ofNat (2 ^ 64)).toNat) : Int)) - w64 (a2 - a1)))).toNat) (dGRatio.enc c6)) (w64 (x3 + 1))) = some y) : k_slices_breakPatternsCmpFunc_api_Ratio_1010 a0 a1 a2 r0 x2 x3 r4 = some y :=
  pt_of zT [10] (by kernel_rfl) h

theorem t_slices_breakPatternsCmpFunc_api_Ratio_1010v1 (a0 : List GRatio) (a1 : Int) (a2 : Int) (r0 : Int) (x2 : List (List AV)) (x3 : Int) (r4 : Int × Int) {y : AV × Mem} (h : (
  chk ((0 : Int) ≤ (w64 (a1 + w64 (wu64 (↑((r4.fst % Int.ofNat (2 ^ 64)).toNat &&& (wu64 (r0 - 1) % Int.ofNat (2 ^ 64)).toNat) : Int))))) <|
  chk ((w64 (a1 + w64 (wu64 (↑((r4.fst % Int.ofNat (2 ^ 64)).toNat &&& (wu64 (r0 - 1) % Int.ofNat (2 ^ 64)).toNat) : Int))) : Int) < ((↑(List.map dGRatio.enc a0).length : Int))) <|
  elemD dGRatio x2 (0 + (w64 (a1 + w64 (wu64 (↑((r4.fst % Int.ofNat (2 ^ 64)).toNat &&& (wu64 (r0 - 1) % Int.ofNat (2 ^ 64)).toNat) : Int)))).toNat) fun (c9 : GRatio) =>
  chk ((0 : Int) ≤ x3) <|
  chk ((x3 : Int) < ((↑(List.map dGRatio.enc a0).length : Int))) <|
  elemD dGRatio x2 (0 + x3.toNat) fun (c10 : GRatio) =>
  chk ((0 : Int) ≤ x3) <|
  chk ((x3 : Int) < ((↑(List.map dGRatio.enc a0).length : Int))) <|
  elemD dGRatio x2 (0 + x3.toNat) fun (c11 : GRatio) =>
  chk ((0 : Int) ≤ (w64 (a1 + w64 (wu64 (↑((r4.fst % Int.ofNat (2 ^ 64)).toNat &&& (wu64 (r0 - 1) % Int.ofNat (2 ^ 64)).toNat) : Int))))) <|
  chk ((w64 (a1 + w64 (wu64 (↑((r4.fst % Int.ofNat (2 ^ 64)).toNat &&& (wu64 (r0 - 1) % Int.ofNat (2 ^ 64)).toNat) : Int))) : Int) < ((↑(List.map dGRatio.enc a0).length : Int))) <|
  elemD dGRatio (List.set x2 (0 + x3.toNat) (dGRatio.enc c9)) (0 + (w64 (a1 + w64 (wu64 (↑((r4.fst % Int.ofNat (2 ^ 64)).toNat &&& (wu64 (r0 - 1) % Int.ofNat (2 ^ 64)).toNat) : Int)))).toNat) fun (c12 : GRatio) =>
  k_slices_breakPatternsCmpFunc_api_Ratio_1 a0 a1 a2 r0 r4.snd (List.set (List.set x2 (0 + x3.toNat) (dGRatio.enc c9)) (0 + (w64 (a1 + w64 (wu64 (↑((r4.fst % Int.ofNat (2 ^ 64)).toNat &&& (wu64 (r0 - 1) % Int.ofNat (2 ^ 64)).toNat) : Int)))).toNat) (dGRatio.enc c10)) (w64 (x3 + 1))) = some y) : k_slices_breakPatternsCmpFunc_api_Ratio_1010v1 a0 a1 a2 r0 x2 x3 r4 = some y :=
  pt_of zT [10] (by kernel_rfl) h

theorem e_slices_breakPatternsCmpFunc_api_Ratio (a0 : List GRatio) (a1 : Int) (a2 : Int) {y : AV × Mem} (h : (
  brn (decide (8 ≤ w64 (a2 - a1))) (callD r_slices_nextPowerOfTwo (cw f_slices_nextPowerOfTwo [I (w64 (a2 - a1))] []) fun (r0 : Int) =>
   chk ((4 : Int) ≠ 0) <|
   k_slices_breakPatternsCmpFunc_api_Ratio_1 a0 a1 a2 r0 (wu64 (w64 (a2 - a1))) (List.map dGRatio.enc a0) (w64 (w64 (a1 + w64 (w64 ((w64 (a2 - a1)).tdiv 4) * 2)) - 1)))
  (some (.tup [], [(1000, ⟨2, ty_api_Ratio, List.map dGRatio.enc a0, false⟩)]))) = some y) : cw f_slices_breakPatternsCmpFunc_api_Ratio [.row 1000 2 0 (List.length (List.map dGRatio.enc a0)), I a1, I a2, .fn f_ratio_Compare []] [(1000, ⟨2, ty_api_Ratio, List.map dGRatio.enc a0, false⟩)] = some y :=
  callw_tree R_slices_breakPatternsCmpFunc_api_Ratio zT [10] (by kernel_rfl) (by kernel_rfl) (by kernel_rfl) (by kernel_rfl) (by kernel_rfl) h

noncomputable def k_slices_choosePivotCmpFunc_api_Ratio_1011 (a0 : List GRatio) (r0 : Int × Int) (r1 : Int × Int) (r2 : Int × Int) : Option (AV × Mem) := pt R_slices_choosePivotCmpFunc_api_Ratio 1011 ⟨[(0, .sl 2 (List.map dGRatio.enc a0)), (3, .fn f_ratio_Compare []), (11, .loc 11 1 0 0), (12, I r0.fst), (13, I r1.fst), (14, I r2.fst)], [(11, ⟨1, ty_i64_2, [dI_i64.enc r2.snd], true⟩)]⟩

noncomputable def k_slices_choosePivotCmpFunc_api_Ratio_1011v1 (a0 : List GRatio) (a1 : Int) (a2 : Int) : Option (AV × Mem) := pt R_slices_choosePivotCmpFunc_api_Ratio 1011 ⟨[(0, .sl 2 (List.map dGRatio.enc a0)), (3, .fn f_ratio_Compare []), (11, .loc 11 1 0 0), (12, I (w64 (a1 + w64 (w64 ((w64 (a2 - a1)).tdiv 4) * 1)))), (13, I (w64 (a1 + w64 (w64 ((w64 (a2 - a1)).tdiv 4) * 2)))), (14, I (w64 (a1 + w64 (w64 ((w64 (a2 - a1)).tdiv 4) * 3)))), (36, B false)], [(11, ⟨1, ty_i64_2, [dI_i64.enc 0], true⟩)]⟩

theorem t_slices_choosePivotCmpFunc_api_Ratio_1011 (a0 : List GRatio) (r0 : Int × Int) (r1 : Int × Int) (r2 : Int × Int) {y : AV × Mem} (h : (
  callD r_slices_medianCmpFunc_api_Ratio (cw f_slices_medianCmpFunc_api_Ratio [.sl 2 (List.map dGRatio.enc a0), I r0.fst, I r1.fst, I r2.fst, .loc 1004 1 0 0, .fn f_ratio_Compare []] [(1004, ⟨1, ty_i64_2, [dI_i64.enc r2.snd], true⟩)]) fun (r3 : Int × Int) =>
  brn (r3.snd == 0) (some (.tup [I r3.fst, I 1], []))
  (brn (r3.snd == 12) (some (.tup [I r3.fst, I 2], []))
   (some (.tup [I r3.fst, I 0], [])))) = some y) : k_slices_choosePivotCmpFunc_api_Ratio_1011 a0 r0 r1 r2 = some y :=
  pt_of zT [11] (by kernel_rfl) h

theorem t_slices_choosePivotCmpFunc_api_Ratio_1011v1 (a0 : List GRatio) (a1 : Int) (a2 : Int) {y : AV × Mem} (h : (
  callD r_slices_medianCmpFunc_api_Ratio (cw f_slices_medianCmpFunc_api_Ratio [.sl 2 (List.map dGRatio.enc a0), I (w64 (a1 + w64 (w64 ((w64 (a2 - a1)).tdiv 4) * 1))), I (w64 (a1 + w64 (w64 ((w64 (a2 - a1)).tdiv 4) * 2))), I (w64 (a1 + w64 (w64 ((w64 (a2 - a1)).tdiv 4) * 3))), .loc 1004 1 0 0, .fn f_ratio_Compare []] [(1004, ⟨1, ty_i64_2, [dI_i64.enc 0], true⟩)]) fun (r4 : Int × Int) =>
  brn (r4.snd == 0) (some (.tup [I r4.fst, I 1], []))
  (brn (r4.snd == 12) (some (.tup [I r4.fst, I 2], []))
   (some (.tup [I r4.fst, I 0], [])))) = some y) : k_slices_choosePivotCmpFunc_api_Ratio_1011v1 a0 a1 a2 = some y :=
  pt_of zT [11] (by kernel_rfl) h

theorem e_slices_choosePivotCmpFunc_api_Ratio (a0 : List GRatio) (a1 : Int) (a2 : Int) {y : AV × Mem} (h : (
  chk ((4 : Int) ≠ 0) <|
  chk ((4 : Int) ≠ 0) <|
  chk ((4 : Int) ≠ 0) <|
  brn (decide (8 ≤ w64 (a2 - a1))) (brn (decide (50 ≤ w64 (a2 - a1))) (callD r_slices_medianAdjacentCmpFunc_api_Ratio (cw f_slices_medianAdjacentCmpFunc_api_Ratio [.sl 2 (List.map dGRatio.enc a0), I (w64 (a1 + w64 (w64 ((w64 (a2 - a1)).tdiv 4) * 1))), .loc 1002 1 0 0, .fn f_ratio_Compare []] [(1002, ⟨1, ty_i64_2, [dI_i64.enc 0], true⟩)]) fun (r0 : Int × Int) =>
    callD r_slices_medianAdjacentCmpFunc_api_Ratio (cw f_slices_medianAdjacentCmpFunc_api_Ratio [.sl 2 (List.map dGRatio.enc a0), I (w64 (a1 + w64 (w64 ((w64 (a2 - a1)).tdiv 4) * 2))), .loc 1002 1 0 0, .fn f_ratio_Compare []] [(1002, ⟨1, ty_i64_2, [dI_i64.enc r0.snd], true⟩)]) fun (r1 : Int × Int) =>
    callD r_slices_medianAdjacentCmpFunc_api_Ratio (cw f_slices_medianAdjacentCmpFunc_api_Ratio [.sl 2 (List.map dGRatio.enc a0), I (w64 (a1 + w64 (w64 ((w64 (a2 - a1)).tdiv 4) * 3))), .loc 1002 1 0 0, .fn f_ratio_Compare []] [(1002, ⟨1, ty_i64_2, [dI_i64.enc r1.snd], true⟩)]) fun (r2 : Int × Int) =>
    k_slices_choosePivotCmpFunc_api_Ratio_1011 a0 r0 r1 r2)
   (k_slices_choosePivotCmpFunc_api_Ratio_1011v1 a0 a1 a2))
  (some (.tup [I (w64 (a1 + w64 (w64 ((w64 (a2 - a1)).tdiv 4) * 2))), I 1], []))) = some y) : cw f_slices_choosePivotCmpFunc_api_Ratio [.sl 2 (List.map dGRatio.enc a0), I a1, I a2, .fn f_ratio_Compare []] [] = some y :=
  callw_tree R_slices_choosePivotCmpFunc_api_Ratio zT [11] (by kernel_rfl) (by kernel_rfl) (by kernel_rfl) (by kernel_rfl) (by kernel_rfl) h

noncomputable def k_slices_reverseRangeCmpFunc_api_Ratio_1 (a0 : List GRatio) (x0 : List (List AV)) (x1 : Int) (x2 : Int) : Option (AV × Mem) := pt R_slices_reverseRangeCmpFunc_api_Ratio 1 ⟨[(0, .row 1000 2 0 ((List.map dGRatio.enc a0).length)), (8, I x1), (9, I x2)], [(1000, ⟨2, ty_api_Ratio, x0, false⟩)]⟩

theorem t_slices_reverseRangeCmpFunc_api_Ratio_1 (a0 : List GRatio) (x0 : List (List AV)) (x1 : Int) (x2 : Int) {y : AV × Mem} (h : (
  brn (decide (x1 < x2)) (chk ((0 : Int) ≤ x2) <|
   chk ((x2 : Int) < ((↑(List.map dGRatio.enc a0).length : Int))) <|
   elemD dGRatio x0 (0 + x2.toNat) fun (c3 : GRatio) =>
   chk ((0 : Int) ≤ x1) <|
   chk ((x1 : Int) < ((↑(List.map dGRatio.enc a0).length : Int))) <|
   elemD dGRatio x0 (0 + x1.toNat) fun (c4 : GRatio) =>
   chk ((0 : Int) ≤ x1) <|
   chk ((x1 : Int) < ((↑(List.map dGRatio.enc a0).length : Int))) <|
   elemD dGRatio x0 (0 + x1.toNat) fun (c5 : GRatio) =>
   chk ((0 : Int) ≤ x2) <|
   chk ((x2 : Int) < ((↑(List.map dGRatio.enc a0).length : Int))) <|
   elemD dGRatio (List.set x0 (0 + x1.toNat) (dGRatio.enc c3)) (0 + x2.toNat) fun (c6 : GRatio) =>
   k_slices_reverseRangeCmpFunc_api_Ratio_1 a0 (List.set (List.set x0 (0 + x1.toNat) (dGRatio.enc c3)) (0 + x2.toNat) (dGRatio.enc c4)) (w64 (x1 + 1)) (w64 (x2 - 1)))
  (some (.tup [], [(1000, ⟨2, ty_api_Ratio, x0, false⟩)]))) = some y) : k_slices_reverseRangeCmpFunc_api_Ratio_1 a0 x0 x1 x2 = some y :=
  pt_of zT [] (by kernel_rfl) h

theorem e_slices_reverseRangeCmpFunc_api_Ratio (a0 : List GRatio) (a1 : Int) (a2 : Int) {y : AV × Mem} (h : (
  k_slices_reverseRangeCmpFunc_api_Ratio_1 a0 (List.map dGRatio.enc a0) a1 (w64 (a2 - 1))) = some y) : cw f_slices_reverseRangeCmpFunc_api_Ratio [.row 1000 2 0 (List.length (List.map dGRatio.enc a0)), I a1, I a2, .fn f_ratio_Compare []] [(1000, ⟨2, ty_api_Ratio, List.map dGRatio.enc a0, false⟩)] = some y :=
  callw_tree R_slices_reverseRangeCmpFunc_api_Ratio zT [] (by kernel_rfl) (by kernel_rfl) (by kernel_rfl) (by kernel_rfl) (by kernel_rfl) h

noncomputable def k_slices_partialInsertionSortCmpFunc_api_Ratio_1 (a0 : List GRatio) (a1 : Int) (a2 : Int) (x0 : List (List AV)) (x1 : Int) (x2 : Int) : Option (AV × Mem) := pt R_slices_partialInsertionSortCmpFunc_api_Ratio 1 ⟨[(0, .row 1000 2 0 ((List.map dGRatio.enc a0).length)), (1, I a1), (2, I a2), (3, .fn f_ratio_Compare []), (9, I x1), (10, I x2)], [(1000, ⟨2, ty_api_Ratio, x0, false⟩)]⟩

noncomputable def k_slices_partialInsertionSortCmpFunc_api_Ratio_2 (a0 : List GRatio) (a1 : Int) (a2 : Int) (x0 : List (List AV)) (x1 : Int) (x2 : Int) : Option (AV × Mem) := pt R_slices_partialInsertionSortCmpFunc_api_Ratio 2 ⟨[(0, .row 1000 2 0 ((List.map dGRatio.enc a0).length)), (1, I a1), (2, I a2), (3, .fn f_ratio_Compare []), (9, I x1), (10, I x2), (16, B true)], [(1000, ⟨2, ty_api_Ratio, x0, false⟩)]⟩

noncomputable def k_slices_partialInsertionSortCmpFunc_api_Ratio_2v1 (a0 : List GRatio) (a1 : Int) (a2 : Int) (x0 : List (List AV)) (x2 : Int) (x6 : Int) : Option (AV × Mem) := pt R_slices_partialInsertionSortCmpFunc_api_Ratio 2 ⟨[(0, .row 1000 2 0 ((List.map dGRatio.enc a0).length)), (1, I a1), (2, I a2), (3, .fn f_ratio_Compare []), (9, I x6), (10, I x2)], [(1000, ⟨2, ty_api_Ratio, x0, false⟩)]⟩

noncomputable def k_slices_partialInsertionSortCmpFunc_api_Ratio_1007 (a0 : List GRatio) (a1 : Int) (a2 : Int) (x0 : List (List AV)) (x2 : Int) (x7 : Int) : Option (AV × Mem) := pt R_slices_partialInsertionSortCmpFunc_api_Ratio 1007 ⟨[(0, .row 1000 2 0 ((List.map dGRatio.enc a0).length)), (1, I a1), (2, I a2), (3, .fn f_ratio_Compare []), (9, I x7), (10, I x2), (36, B false)], [(1000, ⟨2, ty_api_Ratio, x0, false⟩)]⟩

noncomputable def k_slices_partialInsertionSortCmpFunc_api_Ratio_3 (a0 : List GRatio) (a1 : Int) (a2 : Int) (x2 : Int) (x7 : Int) (x15 : List (List AV)) (x16 : Int) : Option (AV × Mem) := pt R_slices_partialInsertionSortCmpFunc_api_Ratio 3 ⟨[(0, .row 1000 2 0 ((List.map dGRatio.enc a0).length)), (1, I a1), (2, I a2), (3, .fn f_ratio_Compare []), (9, I x7), (10, I x2), (11, I x16)], [(1000, ⟨2, ty_api_Ratio, x15, false⟩)]⟩

noncomputable def k_slices_partialInsertionSortCmpFunc_api_Ratio_4 (a0 : List GRatio) (a1 : Int) (a2 : Int) (x2 : Int) (x7 : Int) (x17 : List (List AV)) (x18 : Int) : Option (AV × Mem) := pt R_slices_partialInsertionSortCmpFunc_api_Ratio 4 ⟨[(0, .row 1000 2 0 ((List.map dGRatio.enc a0).length)), (1, I a1), (2, I a2), (3, .fn f_ratio_Compare []), (9, I x7), (10, I x2), (12, I x18)], [(1000, ⟨2, ty_api_Ratio, x17, false⟩)]⟩

theorem t_slices_partialInsertionSortCmpFunc_api_Ratio_1 (a0 : List GRatio) (a1 : Int) (a2 : Int) (x0 : List (List AV)) (x1 : Int) (x2 : Int) {y : AV × Mem} (h : (
  brn (decide (x2 < 5)) (k_slices_partialInsertionSortCmpFunc_api_Ratio_2 a0 a1 a2 x0 x1 x2)
  (some (B false, [(1000, ⟨2, ty_api_Ratio, x0, false⟩)]))) = some y) : k_slices_partialInsertionSortCmpFunc_api_Ratio_1 a0 a1 a2 x0 x1 x2 = some y :=
  pt_of zT [7] (by kernel_rfl) h

theorem t_slices_partialInsertionSortCmpFunc_api_Ratio_2 (a0 : List GRatio) (a1 : Int) (a2 : Int) (x0 : List (List AV)) (x1 : Int) (x2 : Int) {y : AV × Mem} (h : (
  brn (decide (x1 < a2)) (chk ((0 : Int) ≤ x1) <|
   chk ((x1 : Int) < ((↑(List.map dGRatio.enc a0).length : Int))) <|
   elemD dGRatio x0 (0 + x1.toNat) fun (c3 : GRatio) =>
   chk ((0 : Int) ≤ (w64 (x1 - 1))) <|
   chk ((w64 (x1 - 1) : Int) < ((↑(List.map dGRatio.enc a0).length : Int))) <|
   elemD dGRatio x0 (0 + (w64 (x1 - 1)).toNat) fun (c4 : GRatio) =>
   callD r_ratio_Compare (cw f_ratio_Compare [.agg (dGRatio.enc c3), .agg (dGRatio.enc c4)] []) fun (r5 : Int) =>
   brn (!decide (r5 < 0)) (k_slices_partialInsertionSortCmpFunc_api_Ratio_2v1 a0 a1 a2 x0 x2 (w64 (x1 + 1)))
   (k_slices_partialInsertionSortCmpFunc_api_Ratio_1007 a0 a1 a2 x0 x2 x1))
  (k_slices_partialInsertionSortCmpFunc_api_Ratio_1007 a0 a1 a2 x0 x2 x1)) = some y) : k_slices_partialInsertionSortCmpFunc_api_Ratio_2 a0 a1 a2 x0 x1 x2 = some y :=
  pt_of zT [7] (by kernel_rfl) h

theorem t_slices_partialInsertionSortCmpFunc_api_Ratio_2v1 (a0 : List GRatio) (a1 : Int) (a2 : Int) (x0 : List (List AV)) (x2 : Int) (x6 : Int) {y : AV × Mem} (h : (
  brn (decide (x6 < a2)) (chk ((0 : Int) ≤ x6) <|
   chk ((x6 : Int) < ((↑(List.map dGRatio.enc a0).length : Int))) <|
   elemD dGRatio x0 (0 + x6.toNat) fun (c8 : GRatio) =>
   chk ((0 : Int) ≤ (w64 (x6 - 1))) <|
   chk ((w64 (x6 - 1) : Int) < ((↑(List.map dGRatio.enc a0).length : Int))) <|
   elemD dGRatio x0 (0 + (w64 (x6 - 1)).toNat) fun (c9 : GRatio) =>
   callD r_ratio_Compare (cw f_ratio_Compare [.agg (dGRatio.enc c8), .agg (dGRatio.enc c9)] []) fun (r10 : Int) =>
   brn (!decide (r10 < 0)) (k_slices_partialInsertionSortCmpFunc_api_Ratio_2v1 a0 a1 a2 x0 x2 (w64 (x6 + 1)))
   (k_slices_partialInsertionSortCmpFunc_api_Ratio_1007 a0 a1 a2 x0 x2 x6))
  (k_slices_partialInsertionSortCmpFunc_api_Ratio_1007 a0 a1 a2 x0 x2 x6)) = some y) : k_slices_partialInsertionSortCmpFunc_api_Ratio_2v1 a0 a1 a2 x0 x2 x6 = some y :=
  pt_of zT [7] (by kernel_rfl) h

theorem t_slices_partialInsertionSortCmpFunc_api_Ratio_1007 (a0 : List GRatio) (a1 : Int) (a2 : Int) (x0 : List (List AV)) (x2 : Int) (x7 : Int) {y : AV × Mem} (h : (
  brn (x7 == a2) (some (B true, [(1000, ⟨2, ty_api_Ratio, x0, false⟩)]))
  (brn (decide (w64 (a2 - a1) < 50)) (some (B false, [(1000, ⟨2, ty_api_Ratio, x0, false⟩)]))
   (chk ((0 : Int) ≤ (w64 (x7 - 1))) <|
    chk ((w64 (x7 - 1) : Int) < ((↑(List.map dGRatio.enc a0).length : Int))) <|
    elemD dGRatio x0 (0 + (w64 (x7 - 1)).toNat) fun (c11 : GRatio) =>
    chk ((0 : Int) ≤ x7) <|
    chk ((x7 : Int) < ((↑(List.map dGRatio.enc a0).length : Int))) <|
    elemD dGRatio x0 (0 + x7.toNat) fun (c12 : GRatio) =>
    chk ((0 : Int) ≤ x7) <|
    chk ((x7 : Int) < ((↑(List.map dGRatio.enc a0).length : Int))) <|
    elemD dGRatio x0 (0 + x7.toNat) fun (c13 : GRatio) =>
    chk ((0 : Int) ≤ (w64 (x7 - 1))) <|
    chk ((w64 (x7 - 1) : Int) < ((↑(List.map dGRatio.enc a0).length : Int))) <|
    elemD dGRatio (List.set x0 (0 + x7.toNat) (dGRatio.enc c11)) (0 + (w64 (x7 - 1)).toNat) fun (c14 : GRatio) =>
    brn (decide (2 ≤ w64 (x7 - a1))) (k_slices_partialInsertionSortCmpFunc_api_Ratio_3 a0 a1 a2 x2 x7 (List.set (List.set x0 (0 + x7.toNat) (dGRatio.enc c11)) (0 + (w64 (x7 - 1)).toNat) (dGRatio.enc c12)) (w64 (x7 - 1)))
    (brn (decide (2 ≤ w64 (a2 - x7))) (k_slices_partialInsertionSortCmpFunc_api_Ratio_4 a0 a1 a2 x2 x7 (List.set (List.set x0 (0 + x7.toNat) (dGRatio.enc c11)) (0 + (w64 (x7 - 1)).toNat) (dGRatio.enc c12)) (w64 (x7 + 1)))
     (k_slices_partialInsertionSortCmpFunc_api_Ratio_1 a0 a1 a2 (List.set (List.set x0 (0 + x7.toNat) (dGRatio.enc c11)) (0 + (w64 (x7 - 1)).toNat) (dGRatio.enc c12)) x7 (w64 (x2 + 1))))))) = some y) : k_slices_partialInsertionSortCmpFunc_api_Ratio_1007 a0 a1 a2 x0 x2 x7 = some y :=
  pt_of zT [7] (by kernel_rfl) h

theorem t_slices_partialInsertionSortCmpFunc_api_Ratio_3 (a0 : List GRatio) (a1 : Int) (a2 : Int) (x2 : Int) (x7 : Int) (x15 : List (List AV)) (x16 : Int) {y : AV × Mem} (h : (
  brn (decide (1 ≤ x16)) (chk ((0 : Int) ≤ x16) <|
   chk ((x16 : Int) < ((↑(List.map dGRatio.enc a0).length : Int))) <|
   elemD dGRatio x15 (0 + x16.toNat) fun (c19 : GRatio) =>
   chk ((0 : Int) ≤ (w64 (x16 - 1))) <|
   chk ((w64 (x16 - 1) : Int) < ((↑(List.map dGRatio.enc a0).length : Int))) <|
   elemD dGRatio x15 (0 + (w64 (x16 - 1)).toNat) fun (c20 : GRatio) =>
   callD r_ratio_Compare (cw f_ratio_Compare [.agg (dGRatio.enc c19), .agg (dGRatio.enc c20)] []) fun (r21 : Int) =>
   brn (!decide (r21 < 0)) (brn (decide (2 ≤ w64 (a2 - x7))) (k_slices_partialInsertionSortCmpFunc_api_Ratio_4 a0 a1 a2 x2 x7 x15 (w64 (x7 + 1)))
    (k_slices_partialInsertionSortCmpFunc_api_Ratio_1 a0 a1 a2 x15 x7 (w64 (x2 + 1))))
   (chk ((0 : Int) ≤ (w64 (x16 - 1))) <|
    chk ((w64 (x16 - 1) : Int) < ((↑(List.map dGRatio.enc a0).length : Int))) <|
    elemD dGRatio x15 (0 + (w64 (x16 - 1)).toNat) fun (c22 : GRatio) =>
    chk ((0 : Int) ≤ x16) <|
    chk ((x16 : Int) < ((↑(List.map dGRatio.enc a0).length : Int))) <|
    elemD dGRatio x15 (0 + x16.toNat) fun (c23 : GRatio) =>
    chk ((0 : Int) ≤ x16) <|
    chk ((x16 : Int) < ((↑(List.map dGRatio.enc a0).length : Int))) <|
    elemD dGRatio x15 (0 + x16.toNat) fun (c24 : GRatio) =>
    chk ((0 : Int) ≤ (w64 (x16 - 1))) <|
    chk ((w64 (x16 - 1) : Int) < ((↑(List.map dGRatio.enc a0).length : Int))) <|
    elemD dGRatio (List.set x15 (0 + x16.toNat) (dGRatio.enc c22)) (0 + (w64 (x16 - 1)).toNat) fun (c25 : GRatio) =>
    k_slices_partialInsertionSortCmpFunc_api_Ratio_3 a0 a1 a2 x2 x7 (List.set (List.set x15 (0 + x16.toNat) (dGRatio.enc c22)) (0 + (w64 (x16 - 1)).toNat) (dGRatio.enc c23)) (w64 (x16 - 1))))
  (brn (decide (2 ≤ w64 (a2 - x7))) (k_slices_partialInsertionSortCmpFunc_api_Ratio_4 a0 a1 a2 x2 x7 x15 (w64 (x7 + 1)))
   (k_slices_partialInsertionSortCmpFunc_api_Ratio_1 a0 a1 a2 x15 x7 (w64 (x2 + 1))))) = some y) : k_slices_partialInsertionSortCmpFunc_api_Ratio_3 a0 a1 a2 x2 x7 x15 x16 = some y :=
  pt_of zT [7] (by kernel_rfl) h

theorem t_slices_partialInsertionSortCmpFunc_api_Ratio_4 (a0 : List GRatio) (a1 : Int) (a2 : Int) (x2 : Int) (x7 : Int) (x17 : List (List AV)) (x18 : Int) {y : AV × Mem} (h : (
  brn (decide (x18 < a2)) (chk ((0 : Int) ≤ x18) <|
   chk ((x18 : Int) < ((↑(List.map dGRatio.enc a0).length : Int))) <|
   elemD dGRatio x17 (0 + x18.toNat) fun (c26 : GRatio) =>
   chk ((0 : Int) ≤ (w64 (x18 - 1))) <|
   chk ((w64 (x18 - 1) : Int) < ((↑(List.map dGRatio.enc a0).length : Int))) <|
   elemD dGRatio x17 (0 + (w64 (x18 - 1)).toNat) fun (c27 : GRatio) =>
   callD r_ratio_Compare (cw f_ratio_Compare [.agg (dGRatio.enc c26), .agg (dGRatio.enc c27)] []) fun (r28 : Int) =>
   brn (!decide (r28 < 0)) (k_slices_partialInsertionSortCmpFunc_api_Ratio_1 a0 a1 a2 x17 x7 (w64 (x2 + 1)))
   (chk ((0 : Int) ≤ (w64 (x18 - 1))) <|
    chk ((w64 (x18 - 1) : Int) < ((↑(List.map dGRatio.enc a0).length : Int))) <|
    elemD dGRatio x17 (0 + (w64 (x18 - 1)).toNat) fun (c29 : GRatio) =>
    chk ((0 : Int) ≤ x18) <|
    chk ((x18 : Int) < ((↑(List.map dGRatio.enc a0).length : Int))) <|
    elemD dGRatio x17 (0 + x18.toNat) fun (c30 : GRatio) =>
    chk ((0 : Int) ≤ x18) <|
    chk ((x18 : Int) < ((↑(List.map dGRatio.enc a0).length : Int))) <|
    elemD dGRatio x17 (0 + x18.toNat) fun (c31 : GRatio) =>
    chk ((0 : Int) ≤ (w64 (x18 - 1))) <|
    chk ((w64 (x18 - 1) : Int) < ((↑(List.map dGRatio.enc a0).length : Int))) <|
    elemD dGRatio (List.set x17 (0 + x18.toNat) (dGRatio.enc c29)) (0 + (w64 (x18 - 1)).toNat) fun (c32 : GRatio) =>
    k_slices_partialInsertionSortCmpFunc_api_Ratio_4 a0 a1 a2 x2 x7 (List.set (List.set x17 (0 + x18.toNat) (dGRatio.enc c29)) (0 + (w64 (x18 - 1)).toNat) (dGRatio.enc c30)) (w64 (x18 + 1))))
  (k_slices_partialInsertionSortCmpFunc_api_Ratio_1 a0 a1 a2 x17 x7 (w64 (x2 + 1)))) = some y) : k_slices_partialInsertionSortCmpFunc_api_Ratio_4 a0 a1 a2 x2 x7 x17 x18 = some y :=
  pt_of zT [7] (by kernel_rfl) h

theorem e_slices_partialInsertionSortCmpFunc_api_Ratio (a0 : List GRatio) (a1 : Int) (a2 : Int) {y : AV × Mem} (h : (
  k_slices_partialInsertionSortCmpFunc_api_Ratio_1 a0 a1 a2 (List.map dGRatio.enc a0) (w64 (a1 + 1)) 0) = some y) : cw f_slices_partialInsertionSortCmpFunc_api_Ratio [.row 1000 2 0 (List.length (List.map dGRatio.enc a0)), I a1, I a2, .fn f_ratio_Compare []] [(1000, ⟨2, ty_api_Ratio, List.map dGRatio.enc a0, false⟩)] = some y :=
  callw_tree R_slices_partialInsertionSortCmpFunc_api_Ratio zT [7] (by kernel_rfl) (by kernel_rfl) (by kernel_rfl) (by kernel_rfl) (by kernel_rfl) h

noncomputable def k_slices_partitionEqualCmpFunc_api_Ratio_1 (a0 : List GRatio) (a1 : Int) (x4 : List (List AV)) (x5 : Int) (x6 : Int) : Option (AV × Mem) := pt R_slices_partitionEqualCmpFunc_api_Ratio 1 ⟨[(0, .row 1000 2 0 ((List.map dGRatio.enc a0).length)), (1, I a1), (4, .fn f_ratio_Compare []), (11, I x5), (12, I x6)], [(1000, ⟨2, ty_api_Ratio, x4, false⟩)]⟩

noncomputable def k_slices_partitionEqualCmpFunc_api_Ratio_2 (a0 : List GRatio) (a1 : Int) (x4 : List (List AV)) (x6 : Int) (x7 : Int) : Option (AV × Mem) := pt R_slices_partitionEqualCmpFunc_api_Ratio 2 ⟨[(0, .row 1000 2 0 ((List.map dGRatio.enc a0).length)), (1, I a1), (4, .fn f_ratio_Compare []), (11, I x7), (12, I x6)], [(1000, ⟨2, ty_api_Ratio, x4, false⟩)]⟩

noncomputable def k_slices_partitionEqualCmpFunc_api_Ratio_3 (a0 : List GRatio) (a1 : Int) (x4 : List (List AV)) (x6 : Int) (x7 : Int) : Option (AV × Mem) := pt R_slices_partitionEqualCmpFunc_api_Ratio 3 ⟨[(0, .row 1000 2 0 ((List.map dGRatio.enc a0).length)), (1, I a1), (4, .fn f_ratio_Compare []), (11, I x7), (12, I x6), (47, B false)], [(1000, ⟨2, ty_api_Ratio, x4, false⟩)]⟩

noncomputable def k_slices_partitionEqualCmpFunc_api_Ratio_3v1 (a0 : List GRatio) (a1 : Int) (x4 : List (List AV)) (x7 : Int) (x14 : Int) : Option (AV × Mem) := pt R_slices_partitionEqualCmpFunc_api_Ratio 3 ⟨[(0, .row 1000 2 0 ((List.map dGRatio.enc a0).length)), (1, I a1), (4, .fn f_ratio_Compare []), (11, I x7), (12, I x14)], [(1000, ⟨2, ty_api_Ratio, x4, false⟩)]⟩

noncomputable def k_slices_partitionEqualCmpFunc_api_Ratio_1007 (a0 : List GRatio) (a1 : Int) (x4 : List (List AV)) (x7 : Int) (x15 : Int) : Option (AV × Mem) := pt R_slices_partitionEqualCmpFunc_api_Ratio 1007 ⟨[(0, .row 1000 2 0 ((List.map dGRatio.enc a0).length)), (1, I a1), (4, .fn f_ratio_Compare []), (11, I x7), (12, I x15), (65, B false)], [(1000, ⟨2, ty_api_Ratio, x4, false⟩)]⟩

theorem t_slices_partitionEqualCmpFunc_api_Ratio_1 (a0 : List GRatio) (a1 : Int) (x4 : List (List AV)) (x5 : Int) (x6 : Int) {y : AV × Mem} (h : (
  k_slices_partitionEqualCmpFunc_api_Ratio_2 a0 a1 x4 x6 x5) = some y) : k_slices_partitionEqualCmpFunc_api_Ratio_1 a0 a1 x4 x5 x6 = some y :=
  pt_of zT [7] (by kernel_rfl) h

theorem t_slices_partitionEqualCmpFunc_api_Ratio_2 (a0 : List GRatio) (a1 : Int) (x4 : List (List AV)) (x6 : Int) (x7 : Int) {y : AV × Mem} (h : (
  brn (decide (x7 ≤ x6)) (chk ((0 : Int) ≤ a1) <|
   chk ((a1 : Int) < ((↑(List.map dGRatio.enc a0).length : Int))) <|
   elemD dGRatio x4 (0 + a1.toNat) fun (c8 : GRatio) =>
   chk ((0 : Int) ≤ x7) <|
   chk ((x7 : Int) < ((↑(List.map dGRatio.enc a0).length : Int))) <|
   elemD dGRatio x4 (0 + x7.toNat) fun (c9 : GRatio) =>
   callD r_ratio_Compare (cw f_ratio_Compare [.agg (dGRatio.enc c8), .agg (dGRatio.enc c9)] []) fun (r10 : Int) =>
   brn (!decide (r10 < 0)) (k_slices_partitionEqualCmpFunc_api_Ratio_2 a0 a1 x4 x6 (w64 (x7 + 1)))
   (k_slices_partitionEqualCmpFunc_api_Ratio_3 a0 a1 x4 x6 x7))
  (k_slices_partitionEqualCmpFunc_api_Ratio_3 a0 a1 x4 x6 x7)) = some y) : k_slices_partitionEqualCmpFunc_api_Ratio_2 a0 a1 x4 x6 x7 = some y :=
  pt_of zT [7] (by kernel_rfl) h

theorem t_slices_partitionEqualCmpFunc_api_Ratio_3 (a0 : List GRatio) (a1 : Int) (x4 : List (List AV)) (x6 : Int) (x7 : Int) {y : AV × Mem} (h : (
  brn (decide (x7 ≤ x6)) (chk ((0 : Int) ≤ a1) <|
   chk ((a1 : Int) < ((↑(List.map dGRatio.enc a0).length : Int))) <|
   elemD dGRatio x4 (0 + a1.toNat) fun (c11 : GRatio) =>
   chk ((0 : Int) ≤ x6) <|
   chk ((x6 : Int) < ((↑(List.map dGRatio.enc a0).length : Int))) <|
   elemD dGRatio x4 (0 + x6.toNat) fun (c12 : GRatio) =>
   callD r_ratio_Compare (cw f_ratio_Compare [.agg (dGRatio.enc c11), .agg (dGRatio.enc c12)] []) fun (r13 : Int) =>
   brn (decide (r13 < 0)) (k_slices_partitionEqualCmpFunc_api_Ratio_3v1 a0 a1 x4 x7 (w64 (x6 - 1)))
   (k_slices_partitionEqualCmpFunc_api_Ratio_1007 a0 a1 x4 x7 x6))
  (k_slices_partitionEqualCmpFunc_api_Ratio_1007 a0 a1 x4 x7 x6)) = some y) : k_slices_partitionEqualCmpFunc_api_Ratio_3 a0 a1 x4 x6 x7 = some y :=
  pt_of zT [7] (by kernel_rfl) h

theorem t_slices_partitionEqualCmpFunc_api_Ratio_3v1 (a0 : List GRatio) (a1 : Int) (x4 : List (List AV)) (x7 : Int) (x14 : Int) {y : AV × Mem} (h : (
  brn (decide (x7 ≤ x14)) (chk ((0 : Int) ≤ a1) <|
   chk ((a1 : Int) < ((↑(List.map dGRatio.enc a0).length : Int))) <|
   elemD dGRatio x4 (0 + a1.toNat) fun (c16 : GRatio) =>
   chk ((0 : Int) ≤ x14) <|
   chk ((x14 : Int) < ((↑(List.map dGRatio.enc a0).length : Int))) <|
   elemD dGRatio x4 (0 + x14.toNat) fun (c17 : GRatio) =>
   callD r_ratio_Compare (cw f_ratio_Compare [.agg (dGRatio.enc c16), .agg (dGRatio.enc c17)] []) fun (r18 : Int) =>
   brn (decide (r18 < 0)) (k_slices_partitionEqualCmpFunc_api_Ratio_3v1 a0 a1 x4 x7 (w64 (x14 - 1)))
   (k_slices_partitionEqualCmpFunc_api_Ratio_1007 a0 a1 x4 x7 x14))
  (k_slices_partitionEqualCmpFunc_api_Ratio_1007 a0 a1 x4 x7 x14)) = some y) : k_slices_partitionEqualCmpFunc_api_Ratio_3v1 a0 a1 x4 x7 x14 = some y :=
  pt_of zT [7] (by kernel_rfl) h

theorem t_slices_partitionEqualCmpFunc_api_Ratio_1007 (a0 : List GRatio) (a1 : Int) (x4 : List (List AV)) (x7 : Int) (x15 : Int) {y : AV × Mem} (h : (
  brn (decide (x15 < x7)) (some (I x7, [(1000, ⟨2, ty_api_Ratio, x4, false⟩)]))
  (chk ((0 : Int) ≤ x15) <|
   chk ((x15 : Int) < ((↑(List.map dGRatio.enc a0).length : Int))) <|
   elemD dGRatio x4 (0 + x15.toNat) fun (c19 : GRatio) =>
   chk ((0 : Int) ≤ x7) <|
   chk ((x7 : Int) < ((↑(List.map dGRatio.enc a0).length : Int))) <|
   elemD dGRatio x4 (0 + x7.toNat) fun (c20 : GRatio) =>
   chk ((0 : Int) ≤ x7) <|
   chk ((x7 : Int) < ((↑(List.map dGRatio.enc a0).length : Int))) <|
   elemD dGRatio x4 (0 + x7.toNat) fun (c21 : GRatio) =>
   chk ((0 : Int) ≤ x15) <|
   chk ((x15 : Int) < ((↑(List.map dGRatio.enc a0).length : Int))) <|
   elemD dGRatio (List.set x4 (0 + x7.toNat) (dGRatio.enc c19)) (0 + x15.toNat) fun (c22 : GRatio) =>
   k_slices_partitionEqualCmpFunc_api_Ratio_1 a0 a1 (List.set (List.set x4 (0 + x7.toNat) (dGRatio.enc c19)) (0 + x15.toNat) (dGRatio.enc c20)) (w64 (x7 + 1)) (w64 (x15 - 1)))) = some y) : k_slices_partitionEqualCmpFunc_api_Ratio_1007 a0 a1 x4 x7 x15 = some y :=
  pt_of zT [7] (by kernel_rfl) h

theorem e_slices_partitionEqualCmpFunc_api_Ratio (a0 : List GRatio) (a1 : Int) (a2 : Int) (a3 : Int) {y : AV × Mem} (h : (
  chk ((0 : Int) ≤ a3) <|
  chk ((a3 : Int) < ((↑(List.map dGRatio.enc a0).length : Int))) <|
  elemD dGRatio (List.map dGRatio.enc a0) (0 + a3.toNat) fun (c0 : GRatio) =>
  chk ((0 : Int) ≤ a1) <|
  chk ((a1 : Int) < ((↑(List.map dGRatio.enc a0).length : Int))) <|
  elemD dGRatio (List.map dGRatio.enc a0) (0 + a1.toNat) fun (c1 : GRatio) =>
  chk ((0 : Int) ≤ a1) <|
  chk ((a1 : Int) < ((↑(List.map dGRatio.enc a0).length : Int))) <|
  elemD dGRatio (List.map dGRatio.enc a0) (0 + a1.toNat) fun (c2 : GRatio) =>
  chk ((0 : Int) ≤ a3) <|
  chk ((a3 : Int) < ((↑(List.map dGRatio.enc a0).length : Int))) <|
  elemD dGRatio (List.set (List.map dGRatio.enc a0) (0 + a1.toNat) (dGRatio.enc c0)) (0 + a3.toNat) fun (c3 : GRatio) =>
  k_slices_partitionEqualCmpFunc_api_Ratio_1 a0 a1 (List.set (List.set (List.map dGRatio.enc a0) (0 + a1.toNat) (dGRatio.enc c0)) (0 + a3.toNat) (dGRatio.enc c1)) (w64 (a1 + 1)) (w64 (a2 - 1))) = some y) : cw f_slices_partitionEqualCmpFunc_api_Ratio [.row 1000 2 0 (List.length (List.map dGRatio.enc a0)), I a1, I a2, I a3, .fn f_ratio_Compare []] [(1000, ⟨2, ty_api_Ratio, List.map dGRatio.enc a0, false⟩)] = some y :=
  callw_tree R_slices_partitionEqualCmpFunc_api_Ratio zT [7] (by kernel_rfl) (by kernel_rfl) (by kernel_rfl) (by kernel_rfl) (by kernel_rfl) h

end Go.Proofs.Ytiienbfdcgipnaa
