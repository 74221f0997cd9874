/- What the functions compute, between two cut points: printed by a program, checked by the kernel. -/
import Derived.Test.YtohpjbokhcifbaaAnn
namespace Go.Proofs.Ytohpjbokhcifbaa
open Go.Ab
set_option maxRecDepth 100000
set_option linter.unusedVariables false

noncomputable def k_slices_pdqsortCmpFunc_int_1 (a0 : List Int) (s : List GRatio) (x0 : List (List AV)) (x1 : Int) (x2 : Int) (x3 : Int) (x4 : Bool) (x5 : Bool) : Option (AV × Mem) := pt R_slices_pdqsortCmpFunc_int 1 ⟨[(0, .row 1000 1 0 ((List.map dI_i64.enc a0).length)), (1, I x1), (2, I x2), (3, I x3), (4, .fn f_severity_Rank_1 [.fa 2 (List.map dGRatio.enc s)]), (10, B x4), (11, B x5)], [(1000, ⟨1, ty_i64_2, x0, false⟩)]⟩

noncomputable def k_slices_pdqsortCmpFunc_int_1010 (a0 : List Int) (s : List GRatio) (x1 : Int) (x2 : Int) (x3 : Int) (x4 : Bool) (x5 : Bool) (r8 : (List Int)) : Option (AV × Mem) := pt R_slices_pdqsortCmpFunc_int 1010 ⟨[(0, .row 1000 1 0 ((List.map dI_i64.enc a0).length)), (1, I x1), (2, I x2), (3, I (w64 (x3 - 1))), (4, .fn f_severity_Rank_1 [.fa 2 (List.map dGRatio.enc s)]), (10, B x4), (11, B x5), (12, I (w64 (x2 - x1)))], [(1000, ⟨1, ty_i64_2, List.map dI_i64.enc r8, false⟩)]⟩

noncomputable def k_slices_pdqsortCmpFunc_int_1010v1 (a0 : List Int) (s : List GRatio) (x0 : List (List AV)) (x1 : Int) (x2 : Int) (x3 : Int) (x4 : Bool) (x5 : Bool) : Option (AV × Mem) := pt R_slices_pdqsortCmpFunc_int 1010 ⟨[(0, .row 1000 1 0 ((List.map dI_i64.enc a0).length)), (1, I x1), (2, I x2), (3, I x3), (4, .fn f_severity_Rank_1 [.fa 2 (List.map dGRatio.enc s)]), (10, B x4), (11, B x5), (12, I (w64 (x2 - x1))), (39, B false)], [(1000, ⟨1, ty_i64_2, x0, false⟩)]⟩

noncomputable def k_slices_pdqsortCmpFunc_int_1015 (a0 : List Int) (s : List GRatio) (x1 : Int) (x2 : Int) (x4 : Bool) (x5 : Bool) (x11 : List (List AV)) (x12 : Int) (x13 : Int) : Option (AV × Mem) := pt R_slices_pdqsortCmpFunc_int 1015 ⟨[(0, .row 1000 1 0 ((List.map dI_i64.enc a0).length)), (1, I x1), (2, I x2), (3, I x12), (4, .fn f_severity_Rank_1 [.fa 2 (List.map dGRatio.enc s)]), (10, B x4), (11, B x5), (12, I (w64 (x2 - x1))), (13, I x13), (14, I 1)], [(1000, ⟨1, ty_i64_2, x11, false⟩)]⟩

noncomputable def k_slices_pdqsortCmpFunc_int_1015v1 (a0 : List Int) (s : List GRatio) (x1 : Int) (x2 : Int) (x4 : Bool) (x5 : Bool) (x14 : List (List AV)) (x15 : Int) (x16 : Int) (x17 : Int) : Option (AV × Mem) := pt R_slices_pdqsortCmpFunc_int 1015 ⟨[(0, .row 1000 1 0 ((List.map dI_i64.enc a0).length)), (1, I x1), (2, I x2), (3, I x15), (4, .fn f_severity_Rank_1 [.fa 2 (List.map dGRatio.enc s)]), (10, B x4), (11, B x5), (12, I (w64 (x2 - x1))), (13, I x16), (14, I x17), (56, B false)], [(1000, ⟨1, ty_i64_2, x14, false⟩)]⟩

noncomputable def k_slices_pdqsortCmpFunc_int_1017 (a0 : List Int) (s : List GRatio) (x1 : Int) (x2 : Int) (x4 : Bool) (x5 : Bool) (x21 : List (List AV)) (x22 : Int) (x23 : Int) : Option (AV × Mem) := pt R_slices_pdqsortCmpFunc_int 1017 ⟨[(0, .row 1000 1 0 ((List.map dI_i64.enc a0).length)), (1, I x1), (2, I x2), (3, I x22), (4, .fn f_severity_Rank_1 [.fa 2 (List.map dGRatio.enc s)]), (10, B x4), (11, B x5), (12, I (w64 (x2 - x1))), (13, I x23), (80, B false)], [(1000, ⟨1, ty_i64_2, x21, false⟩)]⟩

noncomputable def k_slices_pdqsortCmpFunc_int_1017v1 (a0 : List Int) (s : List GRatio) (x1 : Int) (x2 : Int) (x4 : Bool) (x5 : Bool) (x24 : List (List AV)) (x25 : Int) (x26 : Int) : Option (AV × Mem) := pt R_slices_pdqsortCmpFunc_int 1017 ⟨[(0, .row 1000 1 0 ((List.map dI_i64.enc a0).length)), (1, I x1), (2, I x2), (3, I x25), (4, .fn f_severity_Rank_1 [.fa 2 (List.map dGRatio.enc s)]), (10, B x4), (11, B x5), (12, I (w64 (x2 - x1))), (13, I x26), (75, B false)], [(1000, ⟨1, ty_i64_2, x24, false⟩)]⟩

noncomputable def k_slices_pdqsortCmpFunc_int_1020 (a0 : List Int) (s : List GRatio) (x1 : Int) (x2 : Int) (x4 : Bool) (x5 : Bool) (x32 : List (List AV)) (x33 : Int) (x34 : Int) : Option (AV × Mem) := pt R_slices_pdqsortCmpFunc_int 1020 ⟨[(0, .row 1000 1 0 ((List.map dI_i64.enc a0).length)), (1, I x1), (2, I x2), (3, I x33), (4, .fn f_severity_Rank_1 [.fa 2 (List.map dGRatio.enc s)]), (10, B x4), (11, B x5), (12, I (w64 (x2 - x1))), (13, I x34), (97, B false)], [(1000, ⟨1, ty_i64_2, x32, false⟩)]⟩

theorem t_slices_pdqsortCmpFunc_int_1 (a0 : List Int) (s : List GRatio) (x0 : List (List AV)) (x1 : Int) (x2 : Int) (x3 : Int) (x4 : Bool) (x5 : Bool) {y : AV × Mem} (h : (
  brn (decide (w64 (x2 - x1) ≤ 12)) (callD r_slices_insertionSortCmpFunc_int (cw f_slices_insertionSortCmpFunc_int [.row 1000 1 0 ((List.map dI_i64.enc a0).length), I x1, I x2, .fn f_severity_Rank_1 [.fa 2 (List.map dGRatio.enc s)]] [(1000, ⟨1, ty_i64_2, x0, false⟩)]) fun (r6 : (List Int)) =>
   some (.tup [], [(1000, ⟨1, ty_i64_2, List.map dI_i64.enc r6, false⟩)]))
  (brn (x3 == 0) (callD r_slices_heapSortCmpFunc_int (cw f_slices_heapSortCmpFunc_int [.row 1000 1 0 ((List.map dI_i64.enc a0).length), I x1, I x2, .fn f_severity_Rank_1 [.fa 2 (List.map dGRatio.enc s)]] [(1000, ⟨1, ty_i64_2, x0, false⟩)]) fun (r7 : (List Int)) =>
    some (.tup [], [(1000, ⟨1, ty_i64_2, List.map dI_i64.enc r7, false⟩)]))
   (brn (!x4) (callD r_slices_breakPatternsCmpFunc_int (cw f_slices_breakPatternsCmpFunc_int [.row 1000 1 0 ((List.map dI_i64.enc a0).length), I x1, I x2, .fn f_severity_Rank_1 [.fa 2 (List.map dGRatio.enc s)]] [(1000, ⟨1, ty_i64_2, x0, false⟩)]) fun (r8 : (List Int)) =>
     k_slices_pdqsortCmpFunc_int_1010 a0 s x1 x2 x3 x4 x5 r8)
    (k_slices_pdqsortCmpFunc_int_1010v1 a0 s x0 x1 x2 x3 x4 x5)))) = some y) : k_slices_pdqsortCmpFunc_int_1 a0 s x0 x1 x2 x3 x4 x5 = some y :=
  pt_of zT [20, 17, 15, 10] (by kernel_rfl) h

theorem t_slices_pdqsortCmpFunc_int_1010 (a0 : List Int) (s : List GRatio) (x1 : Int) (x2 : Int) (x3 : Int) (x4 : Bool) (x5 : Bool) (r8 : (List Int)) {y : AV × Mem} (h : (
  chk (0 + (List.map dI_i64.enc a0).length ≤ (List.map dI_i64.enc r8).length) <|
  callD r_slices_choosePivotCmpFunc_int (cw f_slices_choosePivotCmpFunc_int [.sl 1 (List.take ((List.map dI_i64.enc a0).length) (List.map dI_i64.enc r8)), I x1, I x2, .fn f_severity_Rank_1 [.fa 2 (List.map dGRatio.enc s)]] []) fun (r9 : Int × Int) =>
  brn (r9.snd == 2) (callD r_slices_reverseRangeCmpFunc_int (cw f_slices_reverseRangeCmpFunc_int [.row 1000 1 0 ((List.map dI_i64.enc a0).length), I x1, I x2, .fn f_severity_Rank_1 [.fa 2 (List.map dGRatio.enc s)]] [(1000, ⟨1, ty_i64_2, List.map dI_i64.enc r8, false⟩)]) fun (r10 : (List Int)) =>
   k_slices_pdqsortCmpFunc_int_1015 a0 s x1 x2 x4 x5 (List.map dI_i64.enc r10) (w64 (x3 - 1)) (w64 (w64 (x2 - 1) - w64 (r9.fst - x1))))
  (k_slices_pdqsortCmpFunc_int_1015v1 a0 s x1 x2 x4 x5 (List.map dI_i64.enc r8) (w64 (x3 - 1)) r9.fst r9.snd)) = some y) : k_slices_pdqsortCmpFunc_int_1010 a0 s x1 x2 x3 x4 x5 r8 = some y :=
  pt_of zT [20, 17, 15, 10] (by kernel_rfl) h

theorem t_slices_pdqsortCmpFunc_int_1010v1 (a0 : List Int) (s : List GRatio) (x0 : List (List AV)) (x1 : Int) (x2 : Int) (x3 : Int) (x4 : Bool) (x5 : Bool) {y : AV × Mem} (h : (
  chk (0 + (List.map dI_i64.enc a0).length ≤ x0.length) <|
  callD r_slices_choosePivotCmpFunc_int (cw f_slices_choosePivotCmpFunc_int [.sl 1 (List.take ((List.map dI_i64.enc a0).length) x0), I x1, I x2, .fn f_severity_Rank_1 [.fa 2 (List.map dGRatio.enc s)]] []) fun (r18 : Int × Int) =>
  brn (r18.snd == 2) (callD r_slices_reverseRangeCmpFunc_int (cw f_slices_reverseRangeCmpFunc_int [.row 1000 1 0 ((List.map dI_i64.enc a0).length), I x1, I x2, .fn f_severity_Rank_1 [.fa 2 (List.map dGRatio.enc s)]] [(1000, ⟨1, ty_i64_2, x0, false⟩)]) fun (r19 : (List Int)) =>
   k_slices_pdqsortCmpFunc_int_1015 a0 s x1 x2 x4 x5 (List.map dI_i64.enc r19) x3 (w64 (w64 (x2 - 1) - w64 (r18.fst - x1))))
  (k_slices_pdqsortCmpFunc_int_1015v1 a0 s x1 x2 x4 x5 x0 x3 r18.fst r18.snd)) = some y) : k_slices_pdqsortCmpFunc_int_1010v1 a0 s x0 x1 x2 x3 x4 x5 = some y :=
  pt_of zT [20, 17, 15, 10] (by kernel_rfl) h

theorem t_slices_pdqsortCmpFunc_int_1015 (a0 : List Int) (s : List GRatio) (x1 : Int) (x2 : Int) (x4 : Bool) (x5 : Bool) (x11 : List (List AV)) (x12 : Int) (x13 : Int) {y : AV × Mem} (h : (
  brn x4 (brn x5 (brn (1 == 1) (callD r_slices_partialInsertionSortCmpFunc_int (cw f_slices_partialInsertionSortCmpFunc_int [.row 1000 1 0 ((List.map dI_i64.enc a0).length), I x1, I x2, .fn f_severity_Rank_1 [.fa 2 (List.map dGRatio.enc s)]] [(1000, ⟨1, ty_i64_2, x11, false⟩)]) fun (r20 : Bool × (List Int)) =>
     brn r20.fst (some (.tup [], [(1000, ⟨1, ty_i64_2, List.map dI_i64.enc r20.snd, false⟩)]))
     (k_slices_pdqsortCmpFunc_int_1017 a0 s x1 x2 x4 x5 (List.map dI_i64.enc r20.snd) x12 x13))
    (k_slices_pdqsortCmpFunc_int_1017v1 a0 s x1 x2 x4 x5 x11 x12 x13))
   (k_slices_pdqsortCmpFunc_int_1017v1 a0 s x1 x2 x4 x5 x11 x12 x13))
  (k_slices_pdqsortCmpFunc_int_1017v1 a0 s x1 x2 x4 x5 x11 x12 x13)) = some y) : k_slices_pdqsortCmpFunc_int_1015 a0 s x1 x2 x4 x5 x11 x12 x13 = some y :=
  pt_of zT [20, 17, 15, 10] (by kernel_rfl) h

theorem t_slices_pdqsortCmpFunc_int_1015v1 (a0 : List Int) (s : List GRatio) (x1 : Int) (x2 : Int) (x4 : Bool) (x5 : Bool) (x14 : List (List AV)) (x15 : Int) (x16 : Int) (x17 : Int) {y : AV × Mem} (h : (
  brn x4 (brn x5 (brn (x17 == 1) (callD r_slices_partialInsertionSortCmpFunc_int (cw f_slices_partialInsertionSortCmpFunc_int [.row 1000 1 0 ((List.map dI_i64.enc a0).length), I x1, I x2, .fn f_severity_Rank_1 [.fa 2 (List.map dGRatio.enc s)]] [(1000, ⟨1, ty_i64_2, x14, false⟩)]) fun (r27 : Bool × (List Int)) =>
     brn r27.fst (some (.tup [], [(1000, ⟨1, ty_i64_2, List.map dI_i64.enc r27.snd, false⟩)]))
     (k_slices_pdqsortCmpFunc_int_1017 a0 s x1 x2 x4 x5 (List.map dI_i64.enc r27.snd) x15 x16))
    (k_slices_pdqsortCmpFunc_int_1017v1 a0 s x1 x2 x4 x5 x14 x15 x16))
   (k_slices_pdqsortCmpFunc_int_1017v1 a0 s x1 x2 x4 x5 x14 x15 x16))
  (k_slices_pdqsortCmpFunc_int_1017v1 a0 s x1 x2 x4 x5 x14 x15 x16)) = some y) : k_slices_pdqsortCmpFunc_int_1015v1 a0 s x1 x2 x4 x5 x14 x15 x16 x17 = some y :=
  pt_of zT [20, 17, 15, 10] (by kernel_rfl) h

theorem t_slices_pdqsortCmpFunc_int_1017 (a0 : List Int) (s : List GRatio) (x1 : Int) (x2 : Int) (x4 : Bool) (x5 : Bool) (x21 : List (List AV)) (x22 : Int) (x23 : Int) {y : AV × Mem} (h : (
  brn (decide (0 < x1)) (chk ((0 : Int) ≤ (w64 (x1 - 1))) <|
   chk ((w64 (x1 - 1) : Int) < ((↑(List.map dI_i64.enc a0).length : Int))) <|
   elemD dI_i64 x21 (0 + (w64 (x1 - 1)).toNat) fun (c28 : Int) =>
   chk ((0 : Int) ≤ x23) <|
   chk ((x23 : Int) < ((↑(List.map dI_i64.enc a0).length : Int))) <|
   elemD dI_i64 x21 (0 + x23.toNat) fun (c29 : Int) =>
   callD r_severity_Rank_1 (cw f_severity_Rank_1 [I c28, I c29, .fa 2 (List.map dGRatio.enc s)] []) fun (r30 : Int) =>
   brn (!decide (r30 < 0)) (callD r_slices_partitionEqualCmpFunc_int (cw f_slices_partitionEqualCmpFunc_int [.row 1000 1 0 ((List.map dI_i64.enc a0).length), I x1, I x2, I x23, .fn f_severity_Rank_1 [.fa 2 (List.map dGRatio.enc s)]] [(1000, ⟨1, ty_i64_2, x21, false⟩)]) fun (r31 : Int × (List Int)) =>
    k_slices_pdqsortCmpFunc_int_1 a0 s (List.map dI_i64.enc r31.snd) r31.fst x2 x22 x4 x5)
   (k_slices_pdqsortCmpFunc_int_1020 a0 s x1 x2 x4 x5 x21 x22 x23))
  (k_slices_pdqsortCmpFunc_int_1020 a0 s x1 x2 x4 x5 x21 x22 x23)) = some y) : k_slices_pdqsortCmpFunc_int_1017 a0 s x1 x2 x4 x5 x21 x22 x23 = some y :=
  pt_of zT [20, 17, 15, 10] (by kernel_rfl) h

theorem t_slices_pdqsortCmpFunc_int_1017v1 (a0 : List Int) (s : List GRatio) (x1 : Int) (x2 : Int) (x4 : Bool) (x5 : Bool) (x24 : List (List AV)) (x25 : Int) (x26 : Int) {y : AV × Mem} (h : (
  brn (decide (0 < x1)) (chk ((0 : Int) ≤ (w64 (x1 - 1))) <|
   chk ((w64 (x1 - 1) : Int) < ((↑(List.map dI_i64.enc a0).length : Int))) <|
   elemD dI_i64 x24 (0 + (w64 (x1 - 1)).toNat) fun (c35 : Int) =>
   chk ((0 : Int) ≤ x26) <|
   chk ((x26 : Int) < ((↑(List.map dI_i64.enc a0).length : Int))) <|
   elemD dI_i64 x24 (0 + x26.toNat) fun (c36 : Int) =>
   callD r_severity_Rank_1 (cw f_severity_Rank_1 [I c35, I c36, .fa 2 (List.map dGRatio.enc s)] []) fun (r37 : Int) =>
   brn (!decide (r37 < 0)) (callD r_slices_partitionEqualCmpFunc_int (cw f_slices_partitionEqualCmpFunc_int [.row 1000 1 0 ((List.map dI_i64.enc a0).length), I x1, I x2, I x26, .fn f_severity_Rank_1 [.fa 2 (List.map dGRatio.enc s)]] [(1000, ⟨1, ty_i64_2, x24, false⟩)]) fun (r38 : Int × (List Int)) =>
    k_slices_pdqsortCmpFunc_int_1 a0 s (List.map dI_i64.enc r38.snd) r38.fst x2 x25 x4 x5)
   (k_slices_pdqsortCmpFunc_int_1020 a0 s x1 x2 x4 x5 x24 x25 x26))
  (k_slices_pdqsortCmpFunc_int_1020 a0 s x1 x2 x4 x5 x24 x25 x26)) = some y) : k_slices_pdqsortCmpFunc_int_1017v1 a0 s x1 x2 x4 x5 x24 x25 x26 = some y :=
  pt_of zT [20, 17, 15, 10] (by kernel_rfl) h

theorem t_slices_pdqsortCmpFunc_int_1020 (a0 : List Int) (s : List GRatio) (x1 : Int) (x2 : Int) (x4 : Bool) (x5 : Bool) (x32 : List (List AV)) (x33 : Int) (x34 : Int) {y : AV × Mem} (h : (
  callD r_slices_partitionCmpFunc_int (cw f_slices_partitionCmpFunc_int [.row 1000 1 0 ((List.map dI_i64.enc a0).length), I x1, I x2, I x34, .fn f_severity_Rank_1 [.fa 2 (List.map dGRatio.enc s)]] [(1000, ⟨1, ty_i64_2, x32, false⟩)]) fun (r39 : (Int × Bool) × (List Int)) =>
  chk ((8 : Int) ≠ 0) <|
  brn (decide (w64 (r39.fst.fst - x1) < w64 (x2 - r39.fst.fst))) (callD r_slices_pdqsortCmpFunc_int (cw f_slices_pdqsortCmpFunc_int [.row 1000 1 0 ((List.map dI_i64.enc a0).length), I x1, I r39.fst.fst, I x33, .fn f_severity_Rank_1 [.fa 2 (List.map dGRatio.enc s)]] [(1000, ⟨1, ty_i64_2, List.map dI_i64.enc r39.snd, false⟩)]) fun (r40 : (List Int)) =>
   k_slices_pdqsortCmpFunc_int_1 a0 s (List.map dI_i64.enc r40) (w64 (r39.fst.fst + 1)) x2 x33 (decide (w64 ((w64 (x2 - x1)).tdiv 8) ≤ w64 (r39.fst.fst - x1))) r39.fst.snd)
  (callD r_slices_pdqsortCmpFunc_int (cw f_slices_pdqsortCmpFunc_int [.row 1000 1 0 ((List.map dI_i64.enc a0).length), I (w64 (r39.fst.fst + 1)), I x2, I x33, .fn f_severity_Rank_1 [.fa 2 (List.map dGRatio.enc s)]] [(1000, ⟨1, ty_i64_2, List.map dI_i64.enc r39.snd, false⟩)]) fun (r41 : (List Int)) =>
   k_slices_pdqsortCmpFunc_int_1 a0 s (List.map dI_i64.enc r41) x1 r39.fst.fst x33 (decide (w64 ((w64 (x2 - x1)).tdiv 8) ≤ w64 (x2 - r39.fst.fst))) r39.fst.snd)) = some y) : k_slices_pdqsortCmpFunc_int_1020 a0 s x1 x2 x4 x5 x32 x33 x34 = some y :=
  pt_of zT [20, 17, 15, 10] (by kernel_rfl) h

theorem e_slices_pdqsortCmpFunc_int (a0 : List Int) (a1 : Int) (a2 : Int) (a3 : Int) (s : List GRatio) {y : AV × Mem} (h : (
  k_slices_pdqsortCmpFunc_int_1 a0 s (List.map dI_i64.enc a0) a1 a2 a3 true true) = some y) : cw f_slices_pdqsortCmpFunc_int [.row 1000 1 0 (List.length (List.map dI_i64.enc a0)), I a1, I a2, I a3, .fn f_severity_Rank_1 [.fa 2 (List.map dGRatio.enc s)]] [(1000, ⟨1, ty_i64_2, List.map dI_i64.enc a0, false⟩)] = some y :=
  callw_tree R_slices_pdqsortCmpFunc_int zT [20, 17, 15, 10] (by kernel_rfl) (by kernel_rfl) (by kernel_rfl) (by kernel_rfl) (by kernel_rfl) h

theorem e_bits_Len (a0 : Int) {y : AV × Mem} (h : (
  callD r_bits_Len64 (cw f_bits_Len64 [.v (.int .u64 a0)] []) fun (r0 : Int) =>
  some (I r0, [])) = some y) : cw f_bits_Len [.v (.int .u64 a0)] [] = some y :=
  callw_tree R_bits_Len zT [] (by kernel_rfl) (by kernel_rfl) (by kernel_rfl) (by kernel_rfl) (by kernel_rfl) h

theorem e_ratio_Valid (a0 : GRatio) {y : AV × Mem} (h : (
  brn (decide (a0.Den < 1)) (some (B false, []))
  (brn (decide (1152921504606846976 < a0.Den)) (some (B false, []))
   (brn (decide (a0.Num < -1152921504606846976)) (some (B false, []))
    (brn (decide (1152921504606846976 < a0.Num)) (some (B false, []))
     (callD r_ratio_magnitude (cw f_ratio_magnitude [I a0.Num] []) fun (r0 : Int) =>
      callD r_ratio_gcd (cw f_ratio_gcd [.v (.int .u64 r0), .v (.int .u64 (wu64 a0.Den))] []) fun (r1 : Int) =>
      some (B (r1 == 1), [])))))) = some y) : cw f_ratio_Valid [.agg (dGRatio.enc a0)] [] = some y :=
  callw_tree R_ratio_Valid zT [] (by kernel_rfl) (by kernel_rfl) (by kernel_rfl) (by kernel_rfl) (by kernel_rfl) h

theorem e_ratio_signedProduct (a0 : Int) (a1 : Int) {y : AV × Mem} (h : (
  callD r_ratio_magnitude (cw f_ratio_magnitude [I a0] []) fun (r0 : Int) =>
  callD r_ratio_product (cw f_ratio_product [.v (.int .u64 r0), .v (.int .u64 a1)] []) fun (r1 : GratioWide) =>
  some (.agg (dGratioSigned.enc (⟨decide (a0 < 0), ⟨r1.hi, r1.lo⟩⟩)), [])) = some y) : cw f_ratio_signedProduct [I a0, .v (.int .u64 a1)] [] = some y :=
  callw_tree R_ratio_signedProduct zT [] (by kernel_rfl) (by kernel_rfl) (by kernel_rfl) (by kernel_rfl) (by kernel_rfl) h

theorem e_ratio_wide_compare (a0 : GratioWide) (a1 : GratioWide) {y : AV × Mem} (h : (
  callD r_cmp_Compare_uint64 (cw f_cmp_Compare_uint64 [.v (.int .u64 a0.hi), .v (.int .u64 a1.hi)] []) fun (r0 : Int) =>
  brn (r0 != 0) (some (I r0, []))
  (callD r_cmp_Compare_uint64 (cw f_cmp_Compare_uint64 [.v (.int .u64 a0.lo), .v (.int .u64 a1.lo)] []) fun (r1 : Int) =>
   some (I r1, []))) = some y) : cw f_ratio_wide_compare [.agg (dGratioWide.enc a0), .agg (dGratioWide.enc a1)] [] = some y :=
  callw_tree R_ratio_wide_compare zT [] (by kernel_rfl) (by kernel_rfl) (by kernel_rfl) (by kernel_rfl) (by kernel_rfl) h

theorem e_cmp_isNaN_int (a0 : Int) {y : AV × Mem} (h : (
  some (B (a0 != a0), [])) = some y) : cw f_cmp_isNaN_int [I a0] [] = some y :=
  callw_tree R_cmp_isNaN_int zT [] (by kernel_rfl) (by kernel_rfl) (by kernel_rfl) (by kernel_rfl) (by kernel_rfl) h

theorem e_ratio_reduced (a0 : GratioSigned) (a1 : Int) {y : AV × Mem} (h : (
  callD r_ratio_wide_mod (cw f_ratio_wide_mod [.agg (dGratioWide.enc a0.abs), .v (.int .u64 a1)] []) fun (r0 : Int) =>
  callD r_ratio_gcd (cw f_ratio_gcd [.v (.int .u64 r0), .v (.int .u64 a1)] []) fun (r1 : Int) =>
  callD r_ratio_wide_over (cw f_ratio_wide_over [.agg (dGratioWide.enc a0.abs), .v (.int .u64 r1)] []) fun (r2 : GratioWide) =>
  chk ((r1 : Int) ≠ 0) <|
  callD r_ratio_fitted (cw f_ratio_fitted [B a0.neg, .agg (dGratioWide.enc r2), .agg (dGratioWide.enc (⟨0, wu64 (a1.tdiv r1)⟩))] []) fun (r3 : GRatio × Int) =>
  some (.tup [.agg (dGRatio.enc r3.fst), I r3.snd], [])) = some y) : cw f_ratio_reduced [.agg (dGratioSigned.enc a0), .v (.int .u64 a1)] [] = some y :=
  callw_tree R_ratio_reduced zT [] (by kernel_rfl) (by kernel_rfl) (by kernel_rfl) (by kernel_rfl) (by kernel_rfl) h

theorem e_ratio_magnitude (a0 : Int) {y : AV × Mem} (h : (
  brn (decide (a0 < 0)) (some (.v (.int .u64 (wu64 (0 - wu64 a0))), []))
  (some (.v (.int .u64 (wu64 a0)), []))) = some y) : cw f_ratio_magnitude [I a0] [] = some y :=
  callw_tree R_ratio_magnitude zT [] (by kernel_rfl) (by kernel_rfl) (by kernel_rfl) (by kernel_rfl) (by kernel_rfl) h

noncomputable def k_ref01_Divisor_1 (x0 : Gref01Wide) (x1 : Gref01Wide) : Option (AV × Mem) := pt R_ref01_Divisor 1 ⟨[(2, .loc 2 2 0 0), (3, .loc 3 2 0 0), (4, .loc 4 2 0 0)], [(2, ⟨2, ty_ref01_Wide, [dGref01Wide.enc x0], true⟩), (3, ⟨2, ty_ref01_Wide, [dGref01Wide.enc x1], true⟩), (4, ⟨2, ty_ref01_Wide, [dGref01Wide.enc (⟨0, 0⟩)], true⟩)]⟩

theorem t_ref01_Divisor_1 (x0 : Gref01Wide) (x1 : Gref01Wide) {y : AV × Mem} (h : (
  brn (!(x1.Hi == 0 && (x1.Lo == 0 && true))) (callD r_ref01_Divide (cw f_ref01_Divide [.agg (dGref01Wide.enc x0), .agg (dGref01Wide.enc x1)] []) fun (r2 : Gref01Wide × Gref01Wide) =>
   k_ref01_Divisor_1 x1 r2.snd)
  (some (.agg (dGref01Wide.enc x0), []))) = some y) : k_ref01_Divisor_1 x0 x1 = some y :=
  pt_of zT [] (by kernel_rfl) h

theorem e_ref01_Divisor (a0 : Gref01Wide) (a1 : Gref01Wide) {y : AV × Mem} (h : (
  k_ref01_Divisor_1 a0 a1) = some y) : cw f_ref01_Divisor [.agg (dGref01Wide.enc a0), .agg (dGref01Wide.enc a1)] [] = some y :=
  callw_tree R_ref01_Divisor zT [] (by kernel_rfl) (by kernel_rfl) (by kernel_rfl) (by kernel_rfl) (by kernel_rfl) h

theorem e_ref01_Plus (a0 : Gref01Wide) (a1 : Gref01Wide) {y : AV × Mem} (h : (
  brn (Int.ofNat ((a0.Lo.toNat + a1.Lo.toNat + Int.toNat 0) / 2 ^ 64) == 0) (some (.agg (dGref01Wide.enc (⟨Int.ofNat ((a0.Hi.toNat + a1.Hi.toNat + Int.toNat 0) % 2 ^ 64), Int.ofNat ((a0.Lo.toNat + a1.Lo.toNat + Int.toNat 0) % 2 ^ 64)⟩)), []))
  (brn (Int.ofNat ((a0.Lo.toNat + a1.Lo.toNat + Int.toNat 0) / 2 ^ 64) == 1) (some (.agg (dGref01Wide.enc (⟨Int.ofNat ((a0.Hi.toNat + a1.Hi.toNat + Int.toNat 1) % 2 ^ 64), Int.ofNat ((a0.Lo.toNat + a1.Lo.toNat + Int.toNat 0) % 2 ^ 64)⟩)), []))
   (none))) = some y) : cw f_ref01_Plus [.agg (dGref01Wide.enc a0), .agg (dGref01Wide.enc a1)] [] = some y :=
  callw_tree R_ref01_Plus zT [] (by kernel_rfl) (by kernel_rfl) (by kernel_rfl) (by kernel_rfl) (by kernel_rfl) h

theorem e_ref01_Order (a0 : Gref01Wide) (a1 : Gref01Wide) {y : AV × Mem} (h : (
  brn (decide (a0.Hi < a1.Hi)) (some (I (-1), []))
  (brn (a0.Hi == a1.Hi) (brn (decide (a0.Lo < a1.Lo)) (some (I (-1), []))
    (brn (a0.Hi == a1.Hi && (a0.Lo == a1.Lo && true)) (some (I 0, []))
     (some (I 1, []))))
   (brn (a0.Hi == a1.Hi && (a0.Lo == a1.Lo && true)) (some (I 0, []))
    (some (I 1, []))))) = some y) : cw f_ref01_Order [.agg (dGref01Wide.enc a0), .agg (dGref01Wide.enc a1)] [] = some y :=
  callw_tree R_ref01_Order zT [] (by kernel_rfl) (by kernel_rfl) (by kernel_rfl) (by kernel_rfl) (by kernel_rfl) h

theorem e_ref01_Minus (a0 : Gref01Wide) (a1 : Gref01Wide) {y : AV × Mem} (h : (
  brn (Int.ofNat (if a0.Lo.toNat < a1.Lo.toNat + Int.toNat 0 then 1 else 0) == 0) (some (.agg (dGref01Wide.enc (⟨Int.ofNat ((a0.Hi.toNat + 2 ^ 64 - a1.Hi.toNat - Int.toNat 0) % 2 ^ 64), Int.ofNat ((a0.Lo.toNat + 2 ^ 64 - a1.Lo.toNat - Int.toNat 0) % 2 ^ 64)⟩)), []))
  (brn (Int.ofNat (if a0.Lo.toNat < a1.Lo.toNat + Int.toNat 0 then 1 else 0) == 1) (some (.agg (dGref01Wide.enc (⟨Int.ofNat ((a0.Hi.toNat + 2 ^ 64 - a1.Hi.toNat - Int.toNat 1) % 2 ^ 64), Int.ofNat ((a0.Lo.toNat + 2 ^ 64 - a1.Lo.toNat - Int.toNat 0) % 2 ^ 64)⟩)), []))
   (none))) = some y) : cw f_ref01_Minus [.agg (dGref01Wide.enc a0), .agg (dGref01Wide.enc a1)] [] = some y :=
  callw_tree R_ref01_Minus zT [] (by kernel_rfl) (by kernel_rfl) (by kernel_rfl) (by kernel_rfl) (by kernel_rfl) h

theorem e_bits_Mul64 (a0 : Int) (a1 : Int) {y : AV × Mem} (h : (
  chk ((0 : Int) ≤ 32) <|
  chk ((0 : Int) ≤ 32) <|
  chk ((0 : Int) ≤ 32) <|
  chk ((0 : Int) ≤ 32) <|
  chk ((0 : Int) ≤ 32) <|
  some (.tup [.v (.int .u64 (wu64 (wu64 (wu64 (a0.fdiv (2 ^ Min.min (Int.toNat 32) 64) * a1.fdiv (2 ^ Min.min (Int.toNat 32) 64)) + (wu64 (wu64 (a0.fdiv (2 ^ Min.min (Int.toNat 32) 64) * wu64 (↑((a1 % Int.ofNat (2 ^ 64)).toNat &&& (4294967295 % Int.ofNat (2 ^ 64)).toNat) : Int)) + (wu64 (wu64 (↑((a0 % Int.ofNat (2 ^ 64)).toNat &&& (4294967295 % Int.ofNat (2 ^ 64)).toNat) : Int) * wu64 (↑((a1 % Int.ofNat (2 ^ 64)).toNat &&& (4294967295 % Int.ofNat (2 ^ 64)).toNat) : Int))).fdiv (2 ^ Min.min (Int.toNat 32) 64))).fdiv (2 ^ Min.min (Int.toNat 32) 64)) + (wu64 (wu64 (↑((wu64 (wu64 (a0.fdiv (2 ^ Min.min (Int.toNat 32) 64) * wu64 (↑((a1 % Int.ofNat (2 ^ 64)).toNat &&& (4294967295 % Int.ofNat (2 ^ 64)).toNat) : Int)) + (wu64 (wu64 (↑((a0 % Int.ofNat (2 ^ 64)).toNat &&& (4294967295 % Int.ofNat (2 ^ 64)).toNat) : Int) * wu64 (↑((a1 % Int.ofNat (2 ^ 64)).toNat &&& (4294967295 % Int.ofNat (2 ^ 64)).toNat) : Int))).fdiv (2 ^ Min.min (Int.toNat 32) 64)) % Int.ofNat (2 ^ 64)).toNat &&& (4294967295 % Int.ofNat (2 ^ 64)).toNat) : Int) + wu64 (wu64 (↑((a0 % Int.ofNat (2 ^ 64)).toNat &&& (4294967295 % Int.ofNat (2 ^ 64)).toNat) : Int) * a1.fdiv (2 ^ Min.min (Int.toNat 32) 64)))).fdiv (2 ^ Min.min (Int.toNat 32) 64)))), .v (.int .u64 (wu64 (a0 * a1)))], [])) = some y) : cw f_bits_Mul64 [.v (.int .u64 a0), .v (.int .u64 a1)] [] = some y :=
  callw_tree R_bits_Mul64 zT [] (by kernel_rfl) (by kernel_rfl) (by kernel_rfl) (by kernel_rfl) (by kernel_rfl) h

noncomputable def k_slices_IndexFunc_api_Judged_api_Judged_1 (a0 : List GJudged) (x0 : Int) : Option (AV × Mem) := pt R_slices_IndexFunc_api_Judged_api_Judged 1 ⟨[(0, .sl 3 (List.map dGJudged.enc a0)), (1, .fn f_severity_right_1 []), (7, I ((↑(List.map dGJudged.enc a0).length : Int))), (8, I x0)], []⟩

theorem t_slices_IndexFunc_api_Judged_api_Judged_1 (a0 : List GJudged) (x0 : Int) {y : AV × Mem} (h : (
  brn (decide (x0 < (↑(List.map dGJudged.enc a0).length : Int))) (chk ((0 : Int) ≤ x0) <|
   elemD dGJudged (List.map dGJudged.enc a0) x0.toNat fun (c1 : GJudged) =>
   callD r_severity_right_1 (cw f_severity_right_1 [.agg (dGJudged.enc c1)] []) fun (r2 : Bool) =>
   brn r2 (some (I x0, []))
   (k_slices_IndexFunc_api_Judged_api_Judged_1 a0 (w64 (x0 + 1))))
  (some (I (-1), []))) = some y) : k_slices_IndexFunc_api_Judged_api_Judged_1 a0 x0 = some y :=
  pt_of zT [] (by kernel_rfl) h

theorem e_slices_IndexFunc_api_Judged_api_Judged (a0 : List GJudged) {y : AV × Mem} (h : (
  k_slices_IndexFunc_api_Judged_api_Judged_1 a0 0) = some y) : cw f_slices_IndexFunc_api_Judged_api_Judged [.sl 3 (List.map dGJudged.enc a0), .fn f_severity_right_1 []] [] = some y :=
  callw_tree R_slices_IndexFunc_api_Judged_api_Judged zT [] (by kernel_rfl) (by kernel_rfl) (by kernel_rfl) (by kernel_rfl) (by kernel_rfl) h

noncomputable def k_slices_insertionSortCmpFunc_int_1 (a0 : List Int) (a1 : Int) (a2 : Int) (s : List GRatio) (x0 : List (List AV)) (x1 : Int) : Option (AV × Mem) := pt R_slices_insertionSortCmpFunc_int 1 ⟨[(0, .row 1000 1 0 ((List.map dI_i64.enc a0).length)), (1, I a1), (2, I a2), (3, .fn f_severity_Rank_1 [.fa 2 (List.map dGRatio.enc s)]), (8, I x1)], [(1000, ⟨1, ty_i64_2, x0, false⟩)]⟩

noncomputable def k_slices_insertionSortCmpFunc_int_2 (a0 : List Int) (a1 : Int) (a2 : Int) (s : List GRatio) (x1 : Int) (x2 : List (List AV)) (x3 : Int) : Option (AV × Mem) := pt R_slices_insertionSortCmpFunc_int 2 ⟨[(0, .row 1000 1 0 ((List.map dI_i64.enc a0).length)), (1, I a1), (2, I a2), (3, .fn f_severity_Rank_1 [.fa 2 (List.map dGRatio.enc s)]), (8, I x1), (9, I x3)], [(1000, ⟨1, ty_i64_2, x2, false⟩)]⟩

theorem t_slices_insertionSortCmpFunc_int_1 (a0 : List Int) (a1 : Int) (a2 : Int) (s : List GRatio) (x0 : List (List AV)) (x1 : Int) {y : AV × Mem} (h : (
  brn (decide (x1 < a2)) (k_slices_insertionSortCmpFunc_int_2 a0 a1 a2 s x1 x0 x1)
  (some (.tup [], [(1000, ⟨1, ty_i64_2, x0, false⟩)]))) = some y) : k_slices_insertionSortCmpFunc_int_1 a0 a1 a2 s x0 x1 = some y :=
  pt_of zT [] (by kernel_rfl) h

theorem t_slices_insertionSortCmpFunc_int_2 (a0 : List Int) (a1 : Int) (a2 : Int) (s : List GRatio) (x1 : Int) (x2 : List (List AV)) (x3 : Int) {y : AV × Mem} (h : (
  brn (decide (a1 < x3)) (chk ((0 : Int) ≤ x3) <|
   chk ((x3 : Int) < ((↑(List.map dI_i64.enc a0).length : Int))) <|
   elemD dI_i64 x2 (0 + x3.toNat) fun (c4 : Int) =>
   chk ((0 : Int) ≤ (w64 (x3 - 1))) <|
   chk ((w64 (x3 - 1) : Int) < ((↑(List.map dI_i64.enc a0).length : Int))) <|
   elemD dI_i64 x2 (0 + (w64 (x3 - 1)).toNat) fun (c5 : Int) =>
   callD r_severity_Rank_1 (cw f_severity_Rank_1 [I c4, I c5, .fa 2 (List.map dGRatio.enc s)] []) fun (r6 : Int) =>
   brn (decide (r6 < 0)) (chk ((0 : Int) ≤ (w64 (x3 - 1))) <|
    chk ((w64 (x3 - 1) : Int) < ((↑(List.map dI_i64.enc a0).length : Int))) <|
    elemD dI_i64 x2 (0 + (w64 (x3 - 1)).toNat) fun (c7 : Int) =>
    chk ((0 : Int) ≤ x3) <|
    chk ((x3 : Int) < ((↑(List.map dI_i64.enc a0).length : Int))) <|
    elemD dI_i64 x2 (0 + x3.toNat) fun (c8 : Int) =>
    chk ((0 : Int) ≤ x3) <|
    chk ((x3 : Int) < ((↑(List.map dI_i64.enc a0).length : Int))) <|
    elemD dI_i64 x2 (0 + x3.toNat) fun (c9 : Int) =>
    chk ((0 : Int) ≤ (w64 (x3 - 1))) <|
    chk ((w64 (x3 - 1) : Int) < ((↑(List.map dI_i64.enc a0).length : Int))) <|
    elemD dI_i64 (List.set x2 (0 + x3.toNat) (dI_i64.enc c7)) (0 + (w64 (x3 - 1)).toNat) fun (c10 : Int) =>
    k_slices_insertionSortCmpFunc_int_2 a0 a1 a2 s x1 (List.set (List.set x2 (0 + x3.toNat) (dI_i64.enc c7)) (0 + (w64 (x3 - 1)).toNat) (dI_i64.enc c8)) (w64 (x3 - 1)))
   (k_slices_insertionSortCmpFunc_int_1 a0 a1 a2 s x2 (w64 (x1 + 1))))
  (k_slices_insertionSortCmpFunc_int_1 a0 a1 a2 s x2 (w64 (x1 + 1)))) = some y) : k_slices_insertionSortCmpFunc_int_2 a0 a1 a2 s x1 x2 x3 = some y :=
  pt_of zT [] (by kernel_rfl) h

theorem e_slices_insertionSortCmpFunc_int (a0 : List Int) (a1 : Int) (a2 : Int) (s : List GRatio) {y : AV × Mem} (h : (
  k_slices_insertionSortCmpFunc_int_1 a0 a1 a2 s (List.map dI_i64.enc a0) (w64 (a1 + 1))) = some y) : cw f_slices_insertionSortCmpFunc_int [.row 1000 1 0 (List.length (List.map dI_i64.enc a0)), I a1, I a2, .fn f_severity_Rank_1 [.fa 2 (List.map dGRatio.enc s)]] [(1000, ⟨1, ty_i64_2, List.map dI_i64.enc a0, false⟩)] = some y :=
  callw_tree R_slices_insertionSortCmpFunc_int zT [] (by kernel_rfl) (by kernel_rfl) (by kernel_rfl) (by kernel_rfl) (by kernel_rfl) h

noncomputable def k_slices_heapSortCmpFunc_int_1 (a0 : List Int) (a1 : Int) (a2 : Int) (s : List GRatio) (x0 : List (List AV)) (x1 : Int) : Option (AV × Mem) := pt R_slices_heapSortCmpFunc_int 1 ⟨[(0, .row 1000 1 0 ((List.map dI_i64.enc a0).length)), (3, .fn f_severity_Rank_1 [.fa 2 (List.map dGRatio.enc s)]), (8, I a1), (9, I 0), (10, I (w64 (a2 - a1))), (11, I x1)], [(1000, ⟨1, ty_i64_2, x0, false⟩)]⟩

noncomputable def k_slices_heapSortCmpFunc_int_2 (a0 : List Int) (a1 : Int) (s : List GRatio) (x3 : List (List AV)) (x4 : Int) : Option (AV × Mem) := pt R_slices_heapSortCmpFunc_int 2 ⟨[(0, .row 1000 1 0 ((List.map dI_i64.enc a0).length)), (3, .fn f_severity_Rank_1 [.fa 2 (List.map dGRatio.enc s)]), (8, I a1), (9, I 0), (12, I x4)], [(1000, ⟨1, ty_i64_2, x3, false⟩)]⟩

theorem t_slices_heapSortCmpFunc_int_1 (a0 : List Int) (a1 : Int) (a2 : Int) (s : List GRatio) (x0 : List (List AV)) (x1 : Int) {y : AV × Mem} (h : (
  brn (decide (0 ≤ x1)) (callD r_slices_siftDownCmpFunc_int (cw f_slices_siftDownCmpFunc_int [.row 1000 1 0 ((List.map dI_i64.enc a0).length), I x1, I (w64 (a2 - a1)), I a1, .fn f_severity_Rank_1 [.fa 2 (List.map dGRatio.enc s)]] [(1000, ⟨1, ty_i64_2, x0, false⟩)]) fun (r2 : (List Int)) =>
   k_slices_heapSortCmpFunc_int_1 a0 a1 a2 s (List.map dI_i64.enc r2) (w64 (x1 - 1)))
  (k_slices_heapSortCmpFunc_int_2 a0 a1 s x0 (w64 (w64 (a2 - a1) - 1)))) = some y) : k_slices_heapSortCmpFunc_int_1 a0 a1 a2 s x0 x1 = some y :=
  pt_of zT [] (by kernel_rfl) h

theorem t_slices_heapSortCmpFunc_int_2 (a0 : List Int) (a1 : Int) (s : List GRatio) (x3 : List (List AV)) (x4 : Int) {y : AV × Mem} (h : (
  brn (decide (0 ≤ x4)) (chk ((0 : Int) ≤ (w64 (a1 + x4))) <|
   chk ((w64 (a1 + x4) : Int) < ((↑(List.map dI_i64.enc a0).length : Int))) <|
   elemD dI_i64 x3 (0 + (w64 (a1 + x4)).toNat) fun (c5 : Int) =>
   chk ((0 : Int) ≤ a1) <|
   chk ((a1 : Int) < ((↑(List.map dI_i64.enc a0).length : Int))) <|
   elemD dI_i64 x3 (0 + a1.toNat) fun (c6 : Int) =>
   chk ((0 : Int) ≤ a1) <|
   chk ((a1 : Int) < ((↑(List.map dI_i64.enc a0).length : Int))) <|
   elemD dI_i64 x3 (0 + a1.toNat) fun (c7 : Int) =>
   chk ((0 : Int) ≤ (w64 (a1 + x4))) <|
   chk ((w64 (a1 + x4) : Int) < ((↑(List.map dI_i64.enc a0).length : Int))) <|
   elemD dI_i64 (List.set x3 (0 + a1.toNat) (dI_i64.enc c5)) (0 + (w64 (a1 + x4)).toNat) fun (c8 : Int) =>
   callD r_slices_siftDownCmpFunc_int (cw f_slices_siftDownCmpFunc_int [.row 1000 1 0 ((List.map dI_i64.enc a0).length), I 0, I x4, I a1, .fn f_severity_Rank_1 [.fa 2 (List.map dGRatio.enc s)]] [(1000, ⟨1, ty_i64_2, List.set (List.set x3 (0 + a1.toNat) (dI_i64.enc c5)) (0 + (w64 (a1 + x4)).toNat) (dI_i64.enc c6), false⟩)]) fun (r9 : (List Int)) =>
   k_slices_heapSortCmpFunc_int_2 a0 a1 s (List.map dI_i64.enc r9) (w64 (x4 - 1)))
  (some (.tup [], [(1000, ⟨1, ty_i64_2, x3, false⟩)]))) = some y) : k_slices_heapSortCmpFunc_int_2 a0 a1 s x3 x4 = some y :=
  pt_of zT [] (by kernel_rfl) h

theorem e_slices_heapSortCmpFunc_int (a0 : List Int) (a1 : Int) (a2 : Int) (s : List GRatio) {y : AV × Mem} (h : (
  chk ((2 : Int) ≠ 0) <|
  k_slices_heapSortCmpFunc_int_1 a0 a1 a2 s (List.map dI_i64.enc a0) (w64 ((w64 (w64 (a2 - a1) - 1)).tdiv 2))) = some y) : cw f_slices_heapSortCmpFunc_int [.row 1000 1 0 (List.length (List.map dI_i64.enc a0)), I a1, I a2, .fn f_severity_Rank_1 [.fa 2 (List.map dGRatio.enc s)]] [(1000, ⟨1, ty_i64_2, List.map dI_i64.enc a0, false⟩)] = some y :=
  callw_tree R_slices_heapSortCmpFunc_int zT [] (by kernel_rfl) (by kernel_rfl) (by kernel_rfl) (by kernel_rfl) (by kernel_rfl) h

noncomputable def k_slices_breakPatternsCmpFunc_int_1 (a0 : List Int) (a1 : Int) (a2 : Int) (r0 : Int) (x1 : Int) (x2 : List (List AV)) (x3 : Int) : Option (AV × Mem) := pt R_slices_breakPatternsCmpFunc_int 1 ⟨[(0, .row 1000 1 0 ((List.map dI_i64.enc a0).length)), (1, I a1), (8, I (w64 (a2 - a1))), (9, .loc 9 1 0 0), (10, .v (.int .u64 r0)), (11, I x3)], [(9, ⟨1, ty_slices_xorshift, [dI_u64.enc x1], true⟩), (1000, ⟨1, ty_i64_2, x2, false⟩)]⟩

noncomputable def k_slices_breakPatternsCmpFunc_int_1010 (a0 : List Int) (a1 : Int) (a2 : Int) (r0 : Int) (x2 : List (List AV)) (x3 : Int) (r4 : Int × Int) : Option (AV × Mem) := pt R_slices_breakPatternsCmpFunc_int 1010 ⟨[(0, .row 1000 1 0 ((List.map dI_i64.enc a0).length)), (1, I a1), (8, I (w64 (a2 - a1))), (9, .loc 9 1 0 0), (10, .v (.int .u64 r0)), (11, I x3), (12, I (w64 (w64 (wu64 (↑((r4.fst % Int.ofNat (2 ^ 64)).toNat &&& (wu64 (r0 - 1) % Int.ofNat (2 ^ 64)).toNat) : Int)) - w64 (a2 - a1))))], [(9, ⟨1, ty_slices_xorshift, [dI_u64.enc r4.snd], true⟩), (1000, ⟨1, ty_i64_2, x2, false⟩)]⟩

noncomputable def k_slices_breakPatternsCmpFunc_int_1010v1 (a0 : List Int) (a1 : Int) (a2 : Int) (r0 : Int) (x2 : List (List AV)) (x3 : Int) (r4 : Int × Int) : Option (AV × Mem) := pt R_slices_breakPatternsCmpFunc_int 1010 ⟨[(0, .row 1000 1 0 ((List.map dI_i64.enc a0).length)), (1, I a1), (8, I (w64 (a2 - a1))), (9, .loc 9 1 0 0), (10, .v (.int .u64 r0)), (11, I x3), (12, I (w64 (wu64 (↑((r4.fst % Int.ofNat (2 ^ 64)).toNat &&& (wu64 (r0 - 1) % Int.ofNat (2 ^ 64)).toNat) : Int)))), (45, B false)], [(9, ⟨1, ty_slices_xorshift, [dI_u64.enc r4.snd], true⟩), (1000, ⟨1, ty_i64_2, x2, false⟩)]⟩

theorem t_slices_breakPatternsCmpFunc_int_1 (a0 : List Int) (a1 : Int) (a2 : Int) (r0 : Int) (x1 : Int) (x2 : List (List AV)) (x3 : Int) {y : AV × Mem} (h : (
  chk ((4 : Int) ≠ 0) <|
  brn (decide (x3 ≤ w64 (w64 (a1 + w64 (w64 ((w64 (a2 - a1)).tdiv 4) * 2)) + 1))) (callD r_slices_xorshift_Next (cw f_slices_xorshift_Next [.loc 1000 1 0 0] [(1000, ⟨1, ty_slices_xorshift, [dI_u64.enc x1], true⟩)]) fun (r4 : Int × Int) =>
   brn (decide (w64 (a2 - a1) ≤ w64 (wu64 (↑((r4.fst % Int.ofNat (2 ^ 64)).toNat &&& (wu64 (r0 - 1) % Int.ofNat (2 ^ 64)).toNat) : Int)))) (k_slices_breakPatternsCmpFunc_int_1010 a0 a1 a2 r0 x2 x3 r4)
   (k_slices_breakPatternsCmpFunc_int_1010v1 a0 a1 a2 r0 x2 x3 r4))
  (some (.tup [], [(1000, ⟨1, ty_i64_2, x2, false⟩)]))) = some y) : k_slices_breakPatternsCmpFunc_int_1 a0 a1 a2 r0 x1 x2 x3 = some y :=
  pt_of zT [10] (by kernel_rfl) h

theorem t_slices_breakPatternsCmpFunc_int_1010 (a0 : List Int) (a1 : Int) (a2 : Int) (r0 : Int) (x2 : List (List AV)) (x3 : Int) (r4 : Int × Int) {y : AV × Mem} (h : (
  chk ((0 : Int) ≤ (w64 (a1 + w64 (w64 (wu64 (↑((r4.fst % Int.ofNat (2 ^ 64)).toNat &&& (wu64 (r0 - 1) % Int.ofNat (2 ^ 64)).toNat) : Int)) - w64 (a2 - a1))))) <|
  chk ((w64 (a1 + w64 (w64 (wu64 (↑((r4.fst % Int.ofNat (2 ^ 64)).toNat &&& (wu64 (r0 - 1) % Int.ofNat (2 ^ 64)).toNat) : Int)) - w64 (a2 - a1))) : Int) < ((↑(List.map dI_i64.enc a0).length : Int))) <|
  elemD dI_i64 x2 (0 + (w64 (a1 + w64 (w64 (wu64 (↑((r4.fst % Int.ofNat (2 ^ 64)).toNat &&& (wu64 (r0 - 1) % Int.ofNat (2 ^ 64)).toNat) : Int)) - w64 (a2 - a1)))).toNat) fun (c5 : Int) =>
  chk ((0 : Int) ≤ x3) <|
  chk ((x3 : Int) < ((↑(List.map dI_i64.enc a0).length : Int))) <|
  elemD dI_i64 x2 (0 + x3.toNat) fun (c6 : Int) =>
  chk ((0 : Int) ≤ x3) <|
  chk ((x3 : Int) < ((↑(List.map dI_i64.enc a0).length : Int))) <|
  elemD dI_i64 x2 (0 + x3.toNat) fun (c7 : Int) =>
  chk ((0 : Int) ≤ (w64 (a1 + w64 (w64 (wu64 (↑((r4.fst % Int.ofNat (2 ^ 64)).toNat &&& (wu64 (r0 - 1) % Int.ofNat (2 ^ 64)).toNat) : Int)) - w64 (a2 - a1))))) <|
  chk ((w64 (a1 + w64 (w64 (wu64 (↑((r4.fst % Int.ofNat (2 ^ 64)).toNat &&& (wu64 (r0 - 1) % Int.ofNat (2 ^ 64)).toNat) : Int)) - w64 (a2 - a1))) : Int) < ((↑(List.map dI_i64.enc a0).length : Int))) <|
  elemD dI_i64 (List.set x2 (0 + x3.toNat) (dI_i64.enc c5)) (0 + (w64 (a1 + w64 (w64 (wu64 (↑((r4.fst % Int.ofNat (2 ^ 64)).toNat &&& (wu64 (r0 - 1) % Int.ofNat (2 ^ 64)).toNat) : Int)) - w64 (a2 - a1)))).toNat) fun (c8 : Int) =>
  k_slices_breakPatternsCmpFunc_int_1 a0 a1 a2 r0 r4.snd (List.set (List.set x2 (0 + x3.toNat) (dI_i64.enc c5)) (0 + (w64 (a1 + w64 (w64 (wu64 (↑((r4.fst % Int.ofNat (2 ^ 64)).toNat &&& (wu64 (r0 - 1) % Int.ofNat (2 ^ 64)).toNat) : Int)) - w64 (a2 - a1)))).toNat) (dI_i64.enc c6)) (w64 (x3 + 1))) = some y) : k_slices_breakPatternsCmpFunc_int_1010 a0 a1 a2 r0 x2 x3 r4 = some y :=
  pt_of zT [10] (by kernel_rfl) h

theorem t_slices_breakPatternsCmpFunc_int_1010v1 (a0 : List Int) (a1 : Int) (a2 : Int) (r0 : Int) (x2 : List (List AV)) (x3 : Int) (r4 : Int × Int) {y : AV × Mem} (h : (
  chk ((0 : Int) ≤ (w64 (a1 + w64 (wu64 (↑((r4.fst % Int.ofNat (2 ^ 64)).toNat &&& (wu64 (r0 - 1) % Int.ofNat (2 ^ 64)).toNat) : Int))))) <|
  chk ((w64 (a1 + w64 (wu64 (↑((r4.fst % Int.ofNat (2 ^ 64)).toNat &&& (wu64 (r0 - 1) % Int.ofNat (2 ^ 64)).toNat) : Int))) : Int) < ((↑(List.map dI_i64.enc a0).length : Int))) <|
  elemD dI_i64 x2 (0 + (w64 (a1 + w64 (wu64 (↑((r4.fst % Int.ofNat (2 ^ 64)).toNat &&& (wu64 (r0 - 1) % Int.ofNat (2 ^ 64)).toNat) : Int)))).toNat) fun (c9 : Int) =>
  chk ((0 : Int) ≤ x3) <|
  chk ((x3 : Int) < ((↑(List.map dI_i64.enc a0).length : Int))) <|
  elemD dI_i64 x2 (0 + x3.toNat) fun (c10 : Int) =>
  chk ((0 : Int) ≤ x3) <|
  chk ((x3 : Int) < ((↑(List.map dI_i64.enc a0).length : Int))) <|
  elemD dI_i64 x2 (0 + x3.toNat) fun (c11 : Int) =>
  chk ((0 : Int) ≤ (w64 (a1 + w64 (wu64 (↑((r4.fst % Int.ofNat (2 ^ 64)).toNat &&& (wu64 (r0 - 1) % Int.ofNat (2 ^ 64)).toNat) : Int))))) <|
  chk ((w64 (a1 + w64 (wu64 (↑((r4.fst % Int.ofNat (2 ^ 64)).toNat &&& (wu64 (r0 - 1) % Int.ofNat (2 ^ 64)).toNat) : Int))) : Int) < ((↑(List.map dI_i64.enc a0).length : Int))) <|
  elemD dI_i64 (List.set x2 (0 + x3.toNat) (dI_i64.enc c9)) (0 + (w64 (a1 + w64 (wu64 (↑((r4.fst % Int.ofNat (2 ^ 64)).toNat &&& (wu64 (r0 - 1) % Int.ofNat (2 ^ 64)).toNat) : Int)))).toNat) fun (c12 : Int) =>
  k_slices_breakPatternsCmpFunc_int_1 a0 a1 a2 r0 r4.snd (List.set (List.set x2 (0 + x3.toNat) (dI_i64.enc c9)) (0 + (w64 (a1 + w64 (wu64 (↑((r4.fst % Int.ofNat (2 ^ 64)).toNat &&& (wu64 (r0 - 1) % Int.ofNat (2 ^ 64)).toNat) : Int)))).toNat) (dI_i64.enc c10)) (w64 (x3 + 1))) = some y) : k_slices_breakPatternsCmpFunc_int_1010v1 a0 a1 a2 r0 x2 x3 r4 = some y :=
  pt_of zT [10] (by kernel_rfl) h

theorem e_slices_breakPatternsCmpFunc_int (a0 : List Int) (a1 : Int) (a2 : Int) (s : List GRatio) {y : AV × Mem} (h : (
  brn (decide (8 ≤ w64 (a2 - a1))) (callD r_slices_nextPowerOfTwo (cw f_slices_nextPowerOfTwo [I (w64 (a2 - a1))] []) fun (r0 : Int) =>
   chk ((4 : Int) ≠ 0) <|
   k_slices_breakPatternsCmpFunc_int_1 a0 a1 a2 r0 (wu64 (w64 (a2 - a1))) (List.map dI_i64.enc a0) (w64 (w64 (a1 + w64 (w64 ((w64 (a2 - a1)).tdiv 4) * 2)) - 1)))
  (some (.tup [], [(1000, ⟨1, ty_i64_2, List.map dI_i64.enc a0, false⟩)]))) = some y) : cw f_slices_breakPatternsCmpFunc_int [.row 1000 1 0 (List.length (List.map dI_i64.enc a0)), I a1, I a2, .fn f_severity_Rank_1 [.fa 2 (List.map dGRatio.enc s)]] [(1000, ⟨1, ty_i64_2, List.map dI_i64.enc a0, false⟩)] = some y :=
  callw_tree R_slices_breakPatternsCmpFunc_int zT [10] (by kernel_rfl) (by kernel_rfl) (by kernel_rfl) (by kernel_rfl) (by kernel_rfl) h

end Go.Proofs.Ytohpjbokhcifbaa
