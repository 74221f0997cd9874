/- What the functions compute, between two cut points: printed by a program, checked by the kernel. -/
import Derived.Test.YtohpjbokhcifbaaAnn
namespace Go.Proofs.Ytohpjbokhcifbaa
open Go.Ab
set_option maxRecDepth 100000
set_option linter.unusedVariables false

noncomputable def k_slices_choosePivotCmpFunc_int_1011 (a0 : List Int) (s : List GRatio) (r0 : Int × Int) (r1 : Int × Int) (r2 : Int × Int) : Option (AV × Mem) := pt R_slices_choosePivotCmpFunc_int 1011 ⟨[(0, .sl 1 (List.map dI_i64.enc a0)), (3, .fn f_severity_Rank_1 [.fa 2 (List.map dGRatio.enc s)]), (11, .loc 11 1 0 0), (12, I r0.fst), (13, I r1.fst), (14, I r2.fst)], [(11, ⟨1, ty_i64_2, [dI_i64.enc r2.snd], true⟩)]⟩

noncomputable def k_slices_choosePivotCmpFunc_int_1011v1 (a0 : List Int) (a1 : Int) (a2 : Int) (s : List GRatio) : Option (AV × Mem) := pt R_slices_choosePivotCmpFunc_int 1011 ⟨[(0, .sl 1 (List.map dI_i64.enc a0)), (3, .fn f_severity_Rank_1 [.fa 2 (List.map dGRatio.enc s)]), (11, .loc 11 1 0 0), (12, I (w64 (a1 + w64 (w64 ((w64 (a2 - a1)).tdiv 4) * 1)))), (13, I (w64 (a1 + w64 (w64 ((w64 (a2 - a1)).tdiv 4) * 2)))), (14, I (w64 (a1 + w64 (w64 ((w64 (a2 - a1)).tdiv 4) * 3)))), (36, B false)], [(11, ⟨1, ty_i64_2, [dI_i64.enc 0], true⟩)]⟩

theorem t_slices_choosePivotCmpFunc_int_1011 (a0 : List Int) (s : List GRatio) (r0 : Int × Int) (r1 : Int × Int) (r2 : Int × Int) {y : AV × Mem} (h : (
  callD r_slices_medianCmpFunc_int (cw f_slices_medianCmpFunc_int [.sl 1 (List.map dI_i64.enc a0), I r0.fst, I r1.fst, I r2.fst, .loc 1004 1 0 0, .fn f_severity_Rank_1 [.fa 2 (List.map dGRatio.enc s)]] [(1004, ⟨1, ty_i64_2, [dI_i64.enc r2.snd], true⟩)]) fun (r3 : Int × Int) =>
  brn (r3.snd == 0) (some (.tup [I r3.fst, I 1], []))
  (brn (r3.snd == 12) (some (.tup [I r3.fst, I 2], []))
   (some (.tup [I r3.fst, I 0], [])))) = some y) : k_slices_choosePivotCmpFunc_int_1011 a0 s r0 r1 r2 = some y :=
  pt_of zT [11] (by kernel_rfl) h

theorem t_slices_choosePivotCmpFunc_int_1011v1 (a0 : List Int) (a1 : Int) (a2 : Int) (s : List GRatio) {y : AV × Mem} (h : (
  callD r_slices_medianCmpFunc_int (cw f_slices_medianCmpFunc_int [.sl 1 (List.map dI_i64.enc a0), I (w64 (a1 + w64 (w64 ((w64 (a2 - a1)).tdiv 4) * 1))), I (w64 (a1 + w64 (w64 ((w64 (a2 - a1)).tdiv 4) * 2))), I (w64 (a1 + w64 (w64 ((w64 (a2 - a1)).tdiv 4) * 3))), .loc 1004 1 0 0, .fn f_severity_Rank_1 [.fa 2 (List.map dGRatio.enc s)]] [(1004, ⟨1, ty_i64_2, [dI_i64.enc 0], true⟩)]) fun (r4 : Int × Int) =>
  brn (r4.snd == 0) (some (.tup [I r4.fst, I 1], []))
  (brn (r4.snd == 12) (some (.tup [I r4.fst, I 2], []))
   (some (.tup [I r4.fst, I 0], [])))) = some y) : k_slices_choosePivotCmpFunc_int_1011v1 a0 a1 a2 s = some y :=
  pt_of zT [11] (by kernel_rfl) h

theorem e_slices_choosePivotCmpFunc_int (a0 : List Int) (a1 : Int) (a2 : Int) (s : List GRatio) {y : AV × Mem} (h : (
  chk ((4 : Int) ≠ 0) <|
  chk ((4 : Int) ≠ 0) <|
  chk ((4 : Int) ≠ 0) <|
  brn (decide (8 ≤ w64 (a2 - a1))) (brn (decide (50 ≤ w64 (a2 - a1))) (callD r_slices_medianAdjacentCmpFunc_int (cw f_slices_medianAdjacentCmpFunc_int [.sl 1 (List.map dI_i64.enc a0), I (w64 (a1 + w64 (w64 ((w64 (a2 - a1)).tdiv 4) * 1))), .loc 1002 1 0 0, .fn f_severity_Rank_1 [.fa 2 (List.map dGRatio.enc s)]] [(1002, ⟨1, ty_i64_2, [dI_i64.enc 0], true⟩)]) fun (r0 : Int × Int) =>
    callD r_slices_medianAdjacentCmpFunc_int (cw f_slices_medianAdjacentCmpFunc_int [.sl 1 (List.map dI_i64.enc a0), I (w64 (a1 + w64 (w64 ((w64 (a2 - a1)).tdiv 4) * 2))), .loc 1002 1 0 0, .fn f_severity_Rank_1 [.fa 2 (List.map dGRatio.enc s)]] [(1002, ⟨1, ty_i64_2, [dI_i64.enc r0.snd], true⟩)]) fun (r1 : Int × Int) =>
    callD r_slices_medianAdjacentCmpFunc_int (cw f_slices_medianAdjacentCmpFunc_int [.sl 1 (List.map dI_i64.enc a0), I (w64 (a1 + w64 (w64 ((w64 (a2 - a1)).tdiv 4) * 3))), .loc 1002 1 0 0, .fn f_severity_Rank_1 [.fa 2 (List.map dGRatio.enc s)]] [(1002, ⟨1, ty_i64_2, [dI_i64.enc r1.snd], true⟩)]) fun (r2 : Int × Int) =>
    k_slices_choosePivotCmpFunc_int_1011 a0 s r0 r1 r2)
   (k_slices_choosePivotCmpFunc_int_1011v1 a0 a1 a2 s))
  (some (.tup [I (w64 (a1 + w64 (w64 ((w64 (a2 - a1)).tdiv 4) * 2))), I 1], []))) = some y) : cw f_slices_choosePivotCmpFunc_int [.sl 1 (List.map dI_i64.enc a0), I a1, I a2, .fn f_severity_Rank_1 [.fa 2 (List.map dGRatio.enc s)]] [] = some y :=
  callw_tree R_slices_choosePivotCmpFunc_int zT [11] (by kernel_rfl) (by kernel_rfl) (by kernel_rfl) (by kernel_rfl) (by kernel_rfl) h

noncomputable def k_slices_reverseRangeCmpFunc_int_1 (a0 : List Int) (x0 : List (List AV)) (x1 : Int) (x2 : Int) : Option (AV × Mem) := pt R_slices_reverseRangeCmpFunc_int 1 ⟨[(0, .row 1000 1 0 ((List.map dI_i64.enc a0).length)), (8, I x1), (9, I x2)], [(1000, ⟨1, ty_i64_2, x0, false⟩)]⟩

theorem t_slices_reverseRangeCmpFunc_int_1 (a0 : List Int) (x0 : List (List AV)) (x1 : Int) (x2 : Int) {y : AV × Mem} (h : (
  brn (decide (x1 < x2)) (chk ((0 : Int) ≤ x2) <|
   chk ((x2 : Int) < ((↑(List.map dI_i64.enc a0).length : Int))) <|
   elemD dI_i64 x0 (0 + x2.toNat) fun (c3 : Int) =>
   chk ((0 : Int) ≤ x1) <|
   chk ((x1 : Int) < ((↑(List.map dI_i64.enc a0).length : Int))) <|
   elemD dI_i64 x0 (0 + x1.toNat) fun (c4 : Int) =>
   chk ((0 : Int) ≤ x1) <|
   chk ((x1 : Int) < ((↑(List.map dI_i64.enc a0).length : Int))) <|
   elemD dI_i64 x0 (0 + x1.toNat) fun (c5 : Int) =>
   chk ((0 : Int) ≤ x2) <|
   chk ((x2 : Int) < ((↑(List.map dI_i64.enc a0).length : Int))) <|
   elemD dI_i64 (List.set x0 (0 + x1.toNat) (dI_i64.enc c3)) (0 + x2.toNat) fun (c6 : Int) =>
   k_slices_reverseRangeCmpFunc_int_1 a0 (List.set (List.set x0 (0 + x1.toNat) (dI_i64.enc c3)) (0 + x2.toNat) (dI_i64.enc c4)) (w64 (x1 + 1)) (w64 (x2 - 1)))
  (some (.tup [], [(1000, ⟨1, ty_i64_2, x0, false⟩)]))) = some y) : k_slices_reverseRangeCmpFunc_int_1 a0 x0 x1 x2 = some y :=
  pt_of zT [] (by kernel_rfl) h

theorem e_slices_reverseRangeCmpFunc_int (a0 : List Int) (a1 : Int) (a2 : Int) (s : List GRatio) {y : AV × Mem} (h : (
  k_slices_reverseRangeCmpFunc_int_1 a0 (List.map dI_i64.enc a0) a1 (w64 (a2 - 1))) = some y) : cw f_slices_reverseRangeCmpFunc_int [.row 1000 1 0 (List.length (List.map dI_i64.enc a0)), I a1, I a2, .fn f_severity_Rank_1 [.fa 2 (List.map dGRatio.enc s)]] [(1000, ⟨1, ty_i64_2, List.map dI_i64.enc a0, false⟩)] = some y :=
  callw_tree R_slices_reverseRangeCmpFunc_int zT [] (by kernel_rfl) (by kernel_rfl) (by kernel_rfl) (by kernel_rfl) (by kernel_rfl) h

noncomputable def k_slices_partialInsertionSortCmpFunc_int_1 (a0 : List Int) (a1 : Int) (a2 : Int) (s : List GRatio) (x0 : List (List AV)) (x1 : Int) (x2 : Int) : Option (AV × Mem) := pt R_slices_partialInsertionSortCmpFunc_int 1 ⟨[(0, .row 1000 1 0 ((List.map dI_i64.enc a0).length)), (1, I a1), (2, I a2), (3, .fn f_severity_Rank_1 [.fa 2 (List.map dGRatio.enc s)]), (9, I x1), (10, I x2)], [(1000, ⟨1, ty_i64_2, x0, false⟩)]⟩

noncomputable def k_slices_partialInsertionSortCmpFunc_int_2 (a0 : List Int) (a1 : Int) (a2 : Int) (s : List GRatio) (x0 : List (List AV)) (x1 : Int) (x2 : Int) : Option (AV × Mem) := pt R_slices_partialInsertionSortCmpFunc_int 2 ⟨[(0, .row 1000 1 0 ((List.map dI_i64.enc a0).length)), (1, I a1), (2, I a2), (3, .fn f_severity_Rank_1 [.fa 2 (List.map dGRatio.enc s)]), (9, I x1), (10, I x2), (16, B true)], [(1000, ⟨1, ty_i64_2, x0, false⟩)]⟩

noncomputable def k_slices_partialInsertionSortCmpFunc_int_2v1 (a0 : List Int) (a1 : Int) (a2 : Int) (s : List GRatio) (x0 : List (List AV)) (x2 : Int) (x6 : Int) : Option (AV × Mem) := pt R_slices_partialInsertionSortCmpFunc_int 2 ⟨[(0, .row 1000 1 0 ((List.map dI_i64.enc a0).length)), (1, I a1), (2, I a2), (3, .fn f_severity_Rank_1 [.fa 2 (List.map dGRatio.enc s)]), (9, I x6), (10, I x2)], [(1000, ⟨1, ty_i64_2, x0, false⟩)]⟩

noncomputable def k_slices_partialInsertionSortCmpFunc_int_1007 (a0 : List Int) (a1 : Int) (a2 : Int) (s : List GRatio) (x0 : List (List AV)) (x2 : Int) (x7 : Int) : Option (AV × Mem) := pt R_slices_partialInsertionSortCmpFunc_int 1007 ⟨[(0, .row 1000 1 0 ((List.map dI_i64.enc a0).length)), (1, I a1), (2, I a2), (3, .fn f_severity_Rank_1 [.fa 2 (List.map dGRatio.enc s)]), (9, I x7), (10, I x2), (36, B false)], [(1000, ⟨1, ty_i64_2, x0, false⟩)]⟩

noncomputable def k_slices_partialInsertionSortCmpFunc_int_3 (a0 : List Int) (a1 : Int) (a2 : Int) (s : List GRatio) (x2 : Int) (x7 : Int) (x15 : List (List AV)) (x16 : Int) : Option (AV × Mem) := pt R_slices_partialInsertionSortCmpFunc_int 3 ⟨[(0, .row 1000 1 0 ((List.map dI_i64.enc a0).length)), (1, I a1), (2, I a2), (3, .fn f_severity_Rank_1 [.fa 2 (List.map dGRatio.enc s)]), (9, I x7), (10, I x2), (11, I x16)], [(1000, ⟨1, ty_i64_2, x15, false⟩)]⟩

noncomputable def k_slices_partialInsertionSortCmpFunc_int_4 (a0 : List Int) (a1 : Int) (a2 : Int) (s : List GRatio) (x2 : Int) (x7 : Int) (x17 : List (List AV)) (x18 : Int) : Option (AV × Mem) := pt R_slices_partialInsertionSortCmpFunc_int 4 ⟨[(0, .row 1000 1 0 ((List.map dI_i64.enc a0).length)), (1, I a1), (2, I a2), (3, .fn f_severity_Rank_1 [.fa 2 (List.map dGRatio.enc s)]), (9, I x7), (10, I x2), (12, I x18)], [(1000, ⟨1, ty_i64_2, x17, false⟩)]⟩

theorem t_slices_partialInsertionSortCmpFunc_int_1 (a0 : List Int) (a1 : Int) (a2 : Int) (s : List GRatio) (x0 : List (List AV)) (x1 : Int) (x2 : Int) {y : AV × Mem} (h : (
  brn (decide (x2 < 5)) (k_slices_partialInsertionSortCmpFunc_int_2 a0 a1 a2 s x0 x1 x2)
  (some (B false, [(1000, ⟨1, ty_i64_2, x0, false⟩)]))) = some y) : k_slices_partialInsertionSortCmpFunc_int_1 a0 a1 a2 s x0 x1 x2 = some y :=
  pt_of zT [7] (by kernel_rfl) h

theorem t_slices_partialInsertionSortCmpFunc_int_2 (a0 : List Int) (a1 : Int) (a2 : Int) (s : List GRatio) (x0 : List (List AV)) (x1 : Int) (x2 : Int) {y : AV × Mem} (h : (
  brn (decide (x1 < a2)) (chk ((0 : Int) ≤ x1) <|
   chk ((x1 : Int) < ((↑(List.map dI_i64.enc a0).length : Int))) <|
   elemD dI_i64 x0 (0 + x1.toNat) fun (c3 : Int) =>
   chk ((0 : Int) ≤ (w64 (x1 - 1))) <|
   chk ((w64 (x1 - 1) : Int) < ((↑(List.map dI_i64.enc a0).length : Int))) <|
   elemD dI_i64 x0 (0 + (w64 (x1 - 1)).toNat) fun (c4 : Int) =>
   callD r_severity_Rank_1 (cw f_severity_Rank_1 [I c3, I c4, .fa 2 (List.map dGRatio.enc s)] []) fun (r5 : Int) =>
   brn (!decide (r5 < 0)) (k_slices_partialInsertionSortCmpFunc_int_2v1 a0 a1 a2 s x0 x2 (w64 (x1 + 1)))
   (k_slices_partialInsertionSortCmpFunc_int_1007 a0 a1 a2 s x0 x2 x1))
  (k_slices_partialInsertionSortCmpFunc_int_1007 a0 a1 a2 s x0 x2 x1)) = some y) : k_slices_partialInsertionSortCmpFunc_int_2 a0 a1 a2 s x0 x1 x2 = some y :=
  pt_of zT [7] (by kernel_rfl) h

theorem t_slices_partialInsertionSortCmpFunc_int_2v1 (a0 : List Int) (a1 : Int) (a2 : Int) (s : List GRatio) (x0 : List (List AV)) (x2 : Int) (x6 : Int) {y : AV × Mem} (h : (
  brn (decide (x6 < a2)) (chk ((0 : Int) ≤ x6) <|
   chk ((x6 : Int) < ((↑(List.map dI_i64.enc a0).length : Int))) <|
   elemD dI_i64 x0 (0 + x6.toNat) fun (c8 : Int) =>
   chk ((0 : Int) ≤ (w64 (x6 - 1))) <|
   chk ((w64 (x6 - 1) : Int) < ((↑(List.map dI_i64.enc a0).length : Int))) <|
   elemD dI_i64 x0 (0 + (w64 (x6 - 1)).toNat) fun (c9 : Int) =>
   callD r_severity_Rank_1 (cw f_severity_Rank_1 [I c8, I c9, .fa 2 (List.map dGRatio.enc s)] []) fun (r10 : Int) =>
   brn (!decide (r10 < 0)) (k_slices_partialInsertionSortCmpFunc_int_2v1 a0 a1 a2 s x0 x2 (w64 (x6 + 1)))
   (k_slices_partialInsertionSortCmpFunc_int_1007 a0 a1 a2 s x0 x2 x6))
  (k_slices_partialInsertionSortCmpFunc_int_1007 a0 a1 a2 s x0 x2 x6)) = some y) : k_slices_partialInsertionSortCmpFunc_int_2v1 a0 a1 a2 s x0 x2 x6 = some y :=
  pt_of zT [7] (by kernel_rfl) h

theorem t_slices_partialInsertionSortCmpFunc_int_1007 (a0 : List Int) (a1 : Int) (a2 : Int) (s : List GRatio) (x0 : List (List AV)) (x2 : Int) (x7 : Int) {y : AV × Mem} (h : (
  brn (x7 == a2) (some (B true, [(1000, ⟨1, ty_i64_2, x0, false⟩)]))
  (brn (decide (w64 (a2 - a1) < 50)) (some (B false, [(1000, ⟨1, ty_i64_2, x0, false⟩)]))
   (chk ((0 : Int) ≤ (w64 (x7 - 1))) <|
    chk ((w64 (x7 - 1) : Int) < ((↑(List.map dI_i64.enc a0).length : Int))) <|
    elemD dI_i64 x0 (0 + (w64 (x7 - 1)).toNat) fun (c11 : Int) =>
    chk ((0 : Int) ≤ x7) <|
    chk ((x7 : Int) < ((↑(List.map dI_i64.enc a0).length : Int))) <|
    elemD dI_i64 x0 (0 + x7.toNat) fun (c12 : Int) =>
    chk ((0 : Int) ≤ x7) <|
    chk ((x7 : Int) < ((↑(List.map dI_i64.enc a0).length : Int))) <|
    elemD dI_i64 x0 (0 + x7.toNat) fun (c13 : Int) =>
    chk ((0 : Int) ≤ (w64 (x7 - 1))) <|
    chk ((w64 (x7 - 1) : Int) < ((↑(List.map dI_i64.enc a0).length : Int))) <|
    elemD dI_i64 (List.set x0 (0 + x7.toNat) (dI_i64.enc c11)) (0 + (w64 (x7 - 1)).toNat) fun (c14 : Int) =>
    brn (decide (2 ≤ w64 (x7 - a1))) (k_slices_partialInsertionSortCmpFunc_int_3 a0 a1 a2 s x2 x7 (List.set (List.set x0 (0 + x7.toNat) (dI_i64.enc c11)) (0 + (w64 (x7 - 1)).toNat) (dI_i64.enc c12)) (w64 (x7 - 1)))
    (brn (decide (2 ≤ w64 (a2 - x7))) (k_slices_partialInsertionSortCmpFunc_int_4 a0 a1 a2 s x2 x7 (List.set (List.set x0 (0 + x7.toNat) (dI_i64.enc c11)) (0 + (w64 (x7 - 1)).toNat) (dI_i64.enc c12)) (w64 (x7 + 1)))
     (k_slices_partialInsertionSortCmpFunc_int_1 a0 a1 a2 s (List.set (List.set x0 (0 + x7.toNat) (dI_i64.enc c11)) (0 + (w64 (x7 - 1)).toNat) (dI_i64.enc c12)) x7 (w64 (x2 + 1))))))) = some y) : k_slices_partialInsertionSortCmpFunc_int_1007 a0 a1 a2 s x0 x2 x7 = some y :=
  pt_of zT [7] (by kernel_rfl) h

theorem t_slices_partialInsertionSortCmpFunc_int_3 (a0 : List Int) (a1 : Int) (a2 : Int) (s : List GRatio) (x2 : Int) (x7 : Int) (x15 : List (List AV)) (x16 : Int) {y : AV × Mem} (h : (
  brn (decide (1 ≤ x16)) (chk ((0 : Int) ≤ x16) <|
   chk ((x16 : Int) < ((↑(List.map dI_i64.enc a0).length : Int))) <|
   elemD dI_i64 x15 (0 + x16.toNat) fun (c19 : Int) =>
   chk ((0 : Int) ≤ (w64 (x16 - 1))) <|
   chk ((w64 (x16 - 1) : Int) < ((↑(List.map dI_i64.enc a0).length : Int))) <|
   elemD dI_i64 x15 (0 + (w64 (x16 - 1)).toNat) fun (c20 : Int) =>
   callD r_severity_Rank_1 (cw f_severity_Rank_1 [I c19, I c20, .fa 2 (List.map dGRatio.enc s)] []) fun (r21 : Int) =>
   brn (!decide (r21 < 0)) (brn (decide (2 ≤ w64 (a2 - x7))) (k_slices_partialInsertionSortCmpFunc_int_4 a0 a1 a2 s x2 x7 x15 (w64 (x7 + 1)))
    (k_slices_partialInsertionSortCmpFunc_int_1 a0 a1 a2 s x15 x7 (w64 (x2 + 1))))
   (chk ((0 : Int) ≤ (w64 (x16 - 1))) <|
    chk ((w64 (x16 - 1) : Int) < ((↑(List.map dI_i64.enc a0).length : Int))) <|
    elemD dI_i64 x15 (0 + (w64 (x16 - 1)).toNat) fun (c22 : Int) =>
    chk ((0 : Int) ≤ x16) <|
    chk ((x16 : Int) < ((↑(List.map dI_i64.enc a0).length : Int))) <|
    elemD dI_i64 x15 (0 + x16.toNat) fun (c23 : Int) =>
    chk ((0 : Int) ≤ x16) <|
    chk ((x16 : Int) < ((↑(List.map dI_i64.enc a0).length : Int))) <|
    elemD dI_i64 x15 (0 + x16.toNat) fun (c24 : Int) =>
    chk ((0 : Int) ≤ (w64 (x16 - 1))) <|
    chk ((w64 (x16 - 1) : Int) < ((↑(List.map dI_i64.enc a0).length : Int))) <|
    elemD dI_i64 (List.set x15 (0 + x16.toNat) (dI_i64.enc c22)) (0 + (w64 (x16 - 1)).toNat) fun (c25 : Int) =>
    k_slices_partialInsertionSortCmpFunc_int_3 a0 a1 a2 s x2 x7 (List.set (List.set x15 (0 + x16.toNat) (dI_i64.enc c22)) (0 + (w64 (x16 - 1)).toNat) (dI_i64.enc c23)) (w64 (x16 - 1))))
  (brn (decide (2 ≤ w64 (a2 - x7))) (k_slices_partialInsertionSortCmpFunc_int_4 a0 a1 a2 s x2 x7 x15 (w64 (x7 + 1)))
   (k_slices_partialInsertionSortCmpFunc_int_1 a0 a1 a2 s x15 x7 (w64 (x2 + 1))))) = some y) : k_slices_partialInsertionSortCmpFunc_int_3 a0 a1 a2 s x2 x7 x15 x16 = some y :=
  pt_of zT [7] (by kernel_rfl) h

theorem t_slices_partialInsertionSortCmpFunc_int_4 (a0 : List Int) (a1 : Int) (a2 : Int) (s : List GRatio) (x2 : Int) (x7 : Int) (x17 : List (List AV)) (x18 : Int) {y : AV × Mem} (h : (
  brn (decide (x18 < a2)) (chk ((0 : Int) ≤ x18) <|
   chk ((x18 : Int) < ((↑(List.map dI_i64.enc a0).length : Int))) <|
   elemD dI_i64 x17 (0 + x18.toNat) fun (c26 : Int) =>
   chk ((0 : Int) ≤ (w64 (x18 - 1))) <|
   chk ((w64 (x18 - 1) : Int) < ((↑(List.map dI_i64.enc a0).length : Int))) <|
   elemD dI_i64 x17 (0 + (w64 (x18 - 1)).toNat) fun (c27 : Int) =>
   callD r_severity_Rank_1 (cw f_severity_Rank_1 [I c26, I c27, .fa 2 (List.map dGRatio.enc s)] []) fun (r28 : Int) =>
   brn (!decide (r28 < 0)) (k_slices_partialInsertionSortCmpFunc_int_1 a0 a1 a2 s x17 x7 (w64 (x2 + 1)))
   (chk ((0 : Int) ≤ (w64 (x18 - 1))) <|
    chk ((w64 (x18 - 1) : Int) < ((↑(List.map dI_i64.enc a0).length : Int))) <|
    elemD dI_i64 x17 (0 + (w64 (x18 - 1)).toNat) fun (c29 : Int) =>
    chk ((0 : Int) ≤ x18) <|
    chk ((x18 : Int) < ((↑(List.map dI_i64.enc a0).length : Int))) <|
    elemD dI_i64 x17 (0 + x18.toNat) fun (c30 : Int) =>
    chk ((0 : Int) ≤ x18) <|
    chk ((x18 : Int) < ((↑(List.map dI_i64.enc a0).length : Int))) <|
    elemD dI_i64 x17 (0 + x18.toNat) fun (c31 : Int) =>
    chk ((0 : Int) ≤ (w64 (x18 - 1))) <|
    chk ((w64 (x18 - 1) : Int) < ((↑(List.map dI_i64.enc a0).length : Int))) <|
    elemD dI_i64 (List.set x17 (0 + x18.toNat) (dI_i64.enc c29)) (0 + (w64 (x18 - 1)).toNat) fun (c32 : Int) =>
    k_slices_partialInsertionSortCmpFunc_int_4 a0 a1 a2 s x2 x7 (List.set (List.set x17 (0 + x18.toNat) (dI_i64.enc c29)) (0 + (w64 (x18 - 1)).toNat) (dI_i64.enc c30)) (w64 (x18 + 1))))
  (k_slices_partialInsertionSortCmpFunc_int_1 a0 a1 a2 s x17 x7 (w64 (x2 + 1)))) = some y) : k_slices_partialInsertionSortCmpFunc_int_4 a0 a1 a2 s x2 x7 x17 x18 = some y :=
  pt_of zT [7] (by kernel_rfl) h

theorem e_slices_partialInsertionSortCmpFunc_int (a0 : List Int) (a1 : Int) (a2 : Int) (s : List GRatio) {y : AV × Mem} (h : (
  k_slices_partialInsertionSortCmpFunc_int_1 a0 a1 a2 s (List.map dI_i64.enc a0) (w64 (a1 + 1)) 0) = some y) : cw f_slices_partialInsertionSortCmpFunc_int [.row 1000 1 0 (List.length (List.map dI_i64.enc a0)), I a1, I a2, .fn f_severity_Rank_1 [.fa 2 (List.map dGRatio.enc s)]] [(1000, ⟨1, ty_i64_2, List.map dI_i64.enc a0, false⟩)] = some y :=
  callw_tree R_slices_partialInsertionSortCmpFunc_int zT [7] (by kernel_rfl) (by kernel_rfl) (by kernel_rfl) (by kernel_rfl) (by kernel_rfl) h

noncomputable def k_slices_partitionEqualCmpFunc_int_1 (a0 : List Int) (a1 : Int) (s : List GRatio) (x4 : List (List AV)) (x5 : Int) (x6 : Int) : Option (AV × Mem) := pt R_slices_partitionEqualCmpFunc_int 1 ⟨[(0, .row 1000 1 0 ((List.map dI_i64.enc a0).length)), (1, I a1), (4, .fn f_severity_Rank_1 [.fa 2 (List.map dGRatio.enc s)]), (11, I x5), (12, I x6)], [(1000, ⟨1, ty_i64_2, x4, false⟩)]⟩

noncomputable def k_slices_partitionEqualCmpFunc_int_2 (a0 : List Int) (a1 : Int) (s : List GRatio) (x4 : List (List AV)) (x6 : Int) (x7 : Int) : Option (AV × Mem) := pt R_slices_partitionEqualCmpFunc_int 2 ⟨[(0, .row 1000 1 0 ((List.map dI_i64.enc a0).length)), (1, I a1), (4, .fn f_severity_Rank_1 [.fa 2 (List.map dGRatio.enc s)]), (11, I x7), (12, I x6)], [(1000, ⟨1, ty_i64_2, x4, false⟩)]⟩

noncomputable def k_slices_partitionEqualCmpFunc_int_3 (a0 : List Int) (a1 : Int) (s : List GRatio) (x4 : List (List AV)) (x6 : Int) (x7 : Int) : Option (AV × Mem) := pt R_slices_partitionEqualCmpFunc_int 3 ⟨[(0, .row 1000 1 0 ((List.map dI_i64.enc a0).length)), (1, I a1), (4, .fn f_severity_Rank_1 [.fa 2 (List.map dGRatio.enc s)]), (11, I x7), (12, I x6), (47, B false)], [(1000, ⟨1, ty_i64_2, x4, false⟩)]⟩

noncomputable def k_slices_partitionEqualCmpFunc_int_3v1 (a0 : List Int) (a1 : Int) (s : List GRatio) (x4 : List (List AV)) (x7 : Int) (x14 : Int) : Option (AV × Mem) := pt R_slices_partitionEqualCmpFunc_int 3 ⟨[(0, .row 1000 1 0 ((List.map dI_i64.enc a0).length)), (1, I a1), (4, .fn f_severity_Rank_1 [.fa 2 (List.map dGRatio.enc s)]), (11, I x7), (12, I x14)], [(1000, ⟨1, ty_i64_2, x4, false⟩)]⟩

noncomputable def k_slices_partitionEqualCmpFunc_int_1007 (a0 : List Int) (a1 : Int) (s : List GRatio) (x4 : List (List AV)) (x7 : Int) (x15 : Int) : Option (AV × Mem) := pt R_slices_partitionEqualCmpFunc_int 1007 ⟨[(0, .row 1000 1 0 ((List.map dI_i64.enc a0).length)), (1, I a1), (4, .fn f_severity_Rank_1 [.fa 2 (List.map dGRatio.enc s)]), (11, I x7), (12, I x15), (65, B false)], [(1000, ⟨1, ty_i64_2, x4, false⟩)]⟩

theorem t_slices_partitionEqualCmpFunc_int_1 (a0 : List Int) (a1 : Int) (s : List GRatio) (x4 : List (List AV)) (x5 : Int) (x6 : Int) {y : AV × Mem} (h : (
  k_slices_partitionEqualCmpFunc_int_2 a0 a1 s x4 x6 x5) = some y) : k_slices_partitionEqualCmpFunc_int_1 a0 a1 s x4 x5 x6 = some y :=
  pt_of zT [7] (by kernel_rfl) h

theorem t_slices_partitionEqualCmpFunc_int_2 (a0 : List Int) (a1 : Int) (s : List GRatio) (x4 : List (List AV)) (x6 : Int) (x7 : Int) {y : AV × Mem} (h : (
  brn (decide (x7 ≤ x6)) (chk ((0 : Int) ≤ a1) <|
   chk ((a1 : Int) < ((↑(List.map dI_i64.enc a0).length : Int))) <|
   elemD dI_i64 x4 (0 + a1.toNat) fun (c8 : Int) =>
   chk ((0 : Int) ≤ x7) <|
   chk ((x7 : Int) < ((↑(List.map dI_i64.enc a0).length : Int))) <|
   elemD dI_i64 x4 (0 + x7.toNat) fun (c9 : Int) =>
   callD r_severity_Rank_1 (cw f_severity_Rank_1 [I c8, I c9, .fa 2 (List.map dGRatio.enc s)] []) fun (r10 : Int) =>
   brn (!decide (r10 < 0)) (k_slices_partitionEqualCmpFunc_int_2 a0 a1 s x4 x6 (w64 (x7 + 1)))
   (k_slices_partitionEqualCmpFunc_int_3 a0 a1 s x4 x6 x7))
  (k_slices_partitionEqualCmpFunc_int_3 a0 a1 s x4 x6 x7)) = some y) : k_slices_partitionEqualCmpFunc_int_2 a0 a1 s x4 x6 x7 = some y :=
  pt_of zT [7] (by kernel_rfl) h

theorem t_slices_partitionEqualCmpFunc_int_3 (a0 : List Int) (a1 : Int) (s : List GRatio) (x4 : List (List AV)) (x6 : Int) (x7 : Int) {y : AV × Mem} (h : (
  brn (decide (x7 ≤ x6)) (chk ((0 : Int) ≤ a1) <|
   chk ((a1 : Int) < ((↑(List.map dI_i64.enc a0).length : Int))) <|
   elemD dI_i64 x4 (0 + a1.toNat) fun (c11 : Int) =>
   chk ((0 : Int) ≤ x6) <|
   chk ((x6 : Int) < ((↑(List.map dI_i64.enc a0).length : Int))) <|
   elemD dI_i64 x4 (0 + x6.toNat) fun (c12 : Int) =>
   callD r_severity_Rank_1 (cw f_severity_Rank_1 [I c11, I c12, .fa 2 (List.map dGRatio.enc s)] []) fun (r13 : Int) =>
   brn (decide (r13 < 0)) (k_slices_partitionEqualCmpFunc_int_3v1 a0 a1 s x4 x7 (w64 (x6 - 1)))
   (k_slices_partitionEqualCmpFunc_int_1007 a0 a1 s x4 x7 x6))
  (k_slices_partitionEqualCmpFunc_int_1007 a0 a1 s x4 x7 x6)) = some y) : k_slices_partitionEqualCmpFunc_int_3 a0 a1 s x4 x6 x7 = some y :=
  pt_of zT [7] (by kernel_rfl) h

theorem t_slices_partitionEqualCmpFunc_int_3v1 (a0 : List Int) (a1 : Int) (s : List GRatio) (x4 : List (List AV)) (x7 : Int) (x14 : Int) {y : AV × Mem} (h : (
  brn (decide (x7 ≤ x14)) (chk ((0 : Int) ≤ a1) <|
   chk ((a1 : Int) < ((↑(List.map dI_i64.enc a0).length : Int))) <|
   elemD dI_i64 x4 (0 + a1.toNat) fun (c16 : Int) =>
   chk ((0 : Int) ≤ x14) <|
   chk ((x14 : Int) < ((↑(List.map dI_i64.enc a0).length : Int))) <|
   elemD dI_i64 x4 (0 + x14.toNat) fun (c17 : Int) =>
   callD r_severity_Rank_1 (cw f_severity_Rank_1 [I c16, I c17, .fa 2 (List.map dGRatio.enc s)] []) fun (r18 : Int) =>
   brn (decide (r18 < 0)) (k_slices_partitionEqualCmpFunc_int_3v1 a0 a1 s x4 x7 (w64 (x14 - 1)))
   (k_slices_partitionEqualCmpFunc_int_1007 a0 a1 s x4 x7 x14))
  (k_slices_partitionEqualCmpFunc_int_1007 a0 a1 s x4 x7 x14)) = some y) : k_slices_partitionEqualCmpFunc_int_3v1 a0 a1 s x4 x7 x14 = some y :=
  pt_of zT [7] (by kernel_rfl) h

theorem t_slices_partitionEqualCmpFunc_int_1007 (a0 : List Int) (a1 : Int) (s : List GRatio) (x4 : List (List AV)) (x7 : Int) (x15 : Int) {y : AV × Mem} (h : (
  brn (decide (x15 < x7)) (some (I x7, [(1000, ⟨1, ty_i64_2, x4, false⟩)]))
  (chk ((0 : Int) ≤ x15) <|
   chk ((x15 : Int) < ((↑(List.map dI_i64.enc a0).length : Int))) <|
   elemD dI_i64 x4 (0 + x15.toNat) fun (c19 : Int) =>
   chk ((0 : Int) ≤ x7) <|
   chk ((x7 : Int) < ((↑(List.map dI_i64.enc a0).length : Int))) <|
   elemD dI_i64 x4 (0 + x7.toNat) fun (c20 : Int) =>
   chk ((0 : Int) ≤ x7) <|
   chk ((x7 : Int) < ((↑(List.map dI_i64.enc a0).length : Int))) <|
   elemD dI_i64 x4 (0 + x7.toNat) fun (c21 : Int) =>
   chk ((0 : Int) ≤ x15) <|
   chk ((x15 : Int) < ((↑(List.map dI_i64.enc a0).length : Int))) <|
   elemD dI_i64 (List.set x4 (0 + x7.toNat) (dI_i64.enc c19)) (0 + x15.toNat) fun (c22 : Int) =>
   k_slices_partitionEqualCmpFunc_int_1 a0 a1 s (List.set (List.set x4 (0 + x7.toNat) (dI_i64.enc c19)) (0 + x15.toNat) (dI_i64.enc c20)) (w64 (x7 + 1)) (w64 (x15 - 1)))) = some y) : k_slices_partitionEqualCmpFunc_int_1007 a0 a1 s x4 x7 x15 = some y :=
  pt_of zT [7] (by kernel_rfl) h

theorem e_slices_partitionEqualCmpFunc_int (a0 : List Int) (a1 : Int) (a2 : Int) (a3 : Int) (s : List GRatio) {y : AV × Mem} (h : (
  chk ((0 : Int) ≤ a3) <|
  chk ((a3 : Int) < ((↑(List.map dI_i64.enc a0).length : Int))) <|
  elemD dI_i64 (List.map dI_i64.enc a0) (0 + a3.toNat) fun (c0 : Int) =>
  chk ((0 : Int) ≤ a1) <|
  chk ((a1 : Int) < ((↑(List.map dI_i64.enc a0).length : Int))) <|
  elemD dI_i64 (List.map dI_i64.enc a0) (0 + a1.toNat) fun (c1 : Int) =>
  chk ((0 : Int) ≤ a1) <|
  chk ((a1 : Int) < ((↑(List.map dI_i64.enc a0).length : Int))) <|
  elemD dI_i64 (List.map dI_i64.enc a0) (0 + a1.toNat) fun (c2 : Int) =>
  chk ((0 : Int) ≤ a3) <|
  chk ((a3 : Int) < ((↑(List.map dI_i64.enc a0).length : Int))) <|
  elemD dI_i64 (List.set (List.map dI_i64.enc a0) (0 + a1.toNat) (dI_i64.enc c0)) (0 + a3.toNat) fun (c3 : Int) =>
  k_slices_partitionEqualCmpFunc_int_1 a0 a1 s (List.set (List.set (List.map dI_i64.enc a0) (0 + a1.toNat) (dI_i64.enc c0)) (0 + a3.toNat) (dI_i64.enc c1)) (w64 (a1 + 1)) (w64 (a2 - 1))) = some y) : cw f_slices_partitionEqualCmpFunc_int [.row 1000 1 0 (List.length (List.map dI_i64.enc a0)), I a1, I a2, I a3, .fn f_severity_Rank_1 [.fa 2 (List.map dGRatio.enc s)]] [(1000, ⟨1, ty_i64_2, List.map dI_i64.enc a0, false⟩)] = some y :=
  callw_tree R_slices_partitionEqualCmpFunc_int zT [7] (by kernel_rfl) (by kernel_rfl) (by kernel_rfl) (by kernel_rfl) (by kernel_rfl) h

end Go.Proofs.Ytohpjbokhcifbaa
