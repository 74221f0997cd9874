/- What the functions compute, between two cut points: printed by a program, checked by the kernel. -/
import Derived.Test.YtapkemilafogjaaAnn
namespace Go.Proofs.Ytapkemilafogjaa
open Go.Ab
set_option maxRecDepth 100000
set_option linter.unusedVariables false

noncomputable def k_slices_pdqsortCmpFunc_api_Ratio_1 (a0 : List GRatio) (x0 : List (List AV)) (x1 : Int) (x2 : Int) (x3 : Int) (x4 : Bool) (x5 : Bool) : Option (AV × Mem) := pt R_slices_pdqsortCmpFunc_api_Ratio 1 ⟨[(0, .row 1000 2 0 ((List.map dGRatio.enc a0).length)), (1, I x1), (2, I x2), (3, I x3), (4, .fn f_ratio_Compare []), (10, B x4), (11, B x5)], [(1000, ⟨2, ty_api_Ratio, x0, false⟩)]⟩

noncomputable def k_slices_pdqsortCmpFunc_api_Ratio_1010 (a0 : List GRatio) (x1 : Int) (x2 : Int) (x3 : Int) (x4 : Bool) (x5 : Bool) (r8 : (List GRatio)) : Option (AV × Mem) := pt R_slices_pdqsortCmpFunc_api_Ratio 1010 ⟨[(0, .row 1000 2 0 ((List.map dGRatio.enc a0).length)), (1, I x1), (2, I x2), (3, I (w64 (x3 - 1))), (4, .fn f_ratio_Compare []), (10, B x4), (11, B x5), (12, I (w64 (x2 - x1)))], [(1000, ⟨2, ty_api_Ratio, List.map dGRatio.enc r8, false⟩)]⟩

noncomputable def k_slices_pdqsortCmpFunc_api_Ratio_1010v1 (a0 : List GRatio) (x0 : List (List AV)) (x1 : Int) (x2 : Int) (x3 : Int) (x4 : Bool) (x5 : Bool) : Option (AV × Mem) := pt R_slices_pdqsortCmpFunc_api_Ratio 1010 ⟨[(0, .row 1000 2 0 ((List.map dGRatio.enc a0).length)), (1, I x1), (2, I x2), (3, I x3), (4, .fn f_ratio_Compare []), (10, B x4), (11, B x5), (12, I (w64 (x2 - x1))), (39, B false)], [(1000, ⟨2, ty_api_Ratio, x0, false⟩)]⟩

noncomputable def k_slices_pdqsortCmpFunc_api_Ratio_1015 (a0 : List GRatio) (x1 : Int) (x2 : Int) (x4 : Bool) (x5 : Bool) (x11 : List (List AV)) (x12 : Int) (x13 : Int) : Option (AV × Mem) := pt R_slices_pdqsortCmpFunc_api_Ratio 1015 ⟨[(0, .row 1000 2 0 ((List.map dGRatio.enc a0).length)), (1, I x1), (2, I x2), (3, I x12), (4, .fn f_ratio_Compare []), (10, B x4), (11, B x5), (12, I (w64 (x2 - x1))), (13, I x13), (14, I 1)], [(1000, ⟨2, ty_api_Ratio, x11, false⟩)]⟩

noncomputable def k_slices_pdqsortCmpFunc_api_Ratio_1015v1 (a0 : List GRatio) (x1 : Int) (x2 : Int) (x4 : Bool) (x5 : Bool) (x14 : List (List AV)) (x15 : Int) (x16 : Int) (x17 : Int) : Option (AV × Mem) := pt R_slices_pdqsortCmpFunc_api_Ratio 1015 ⟨[(0, .row 1000 2 0 ((List.map dGRatio.enc a0).length)), (1, I x1), (2, I x2), (3, I x15), (4, .fn f_ratio_Compare []), (10, B x4), (11, B x5), (12, I (w64 (x2 - x1))), (13, I x16), (14, I x17), (56, B false)], [(1000, ⟨2, ty_api_Ratio, x14, false⟩)]⟩

noncomputable def k_slices_pdqsortCmpFunc_api_Ratio_1017 (a0 : List GRatio) (x1 : Int) (x2 : Int) (x4 : Bool) (x5 : Bool) (x21 : List (List AV)) (x22 : Int) (x23 : Int) : Option (AV × Mem) := pt R_slices_pdqsortCmpFunc_api_Ratio 1017 ⟨[(0, .row 1000 2 0 ((List.map dGRatio.enc a0).length)), (1, I x1), (2, I x2), (3, I x22), (4, .fn f_ratio_Compare []), (10, B x4), (11, B x5), (12, I (w64 (x2 - x1))), (13, I x23), (80, B false)], [(1000, ⟨2, ty_api_Ratio, x21, false⟩)]⟩

noncomputable def k_slices_pdqsortCmpFunc_api_Ratio_1017v1 (a0 : List GRatio) (x1 : Int) (x2 : Int) (x4 : Bool) (x5 : Bool) (x24 : List (List AV)) (x25 : Int) (x26 : Int) : Option (AV × Mem) := pt R_slices_pdqsortCmpFunc_api_Ratio 1017 ⟨[(0, .row 1000 2 0 ((List.map dGRatio.enc a0).length)), (1, I x1), (2, I x2), (3, I x25), (4, .fn f_ratio_Compare []), (10, B x4), (11, B x5), (12, I (w64 (x2 - x1))), (13, I x26), (75, B false)], [(1000, ⟨2, ty_api_Ratio, x24, false⟩)]⟩

noncomputable def k_slices_pdqsortCmpFunc_api_Ratio_1020 (a0 : List GRatio) (x1 : Int) (x2 : Int) (x4 : Bool) (x5 : Bool) (x32 : List (List AV)) (x33 : Int) (x34 : Int) : Option (AV × Mem) := pt R_slices_pdqsortCmpFunc_api_Ratio 1020 ⟨[(0, .row 1000 2 0 ((List.map dGRatio.enc a0).length)), (1, I x1), (2, I x2), (3, I x33), (4, .fn f_ratio_Compare []), (10, B x4), (11, B x5), (12, I (w64 (x2 - x1))), (13, I x34), (97, B false)], [(1000, ⟨2, ty_api_Ratio, x32, false⟩)]⟩

theorem t_slices_pdqsortCmpFunc_api_Ratio_1 (a0 : List GRatio) (x0 : List (List AV)) (x1 : Int) (x2 : Int) (x3 : Int) (x4 : Bool) (x5 : Bool) {y : AV × Mem} (h : (
  brn (decide (w64 (x2 - x1) ≤ 12)) (callD r_slices_insertionSortCmpFunc_api_Ratio (cw f_slices_insertionSortCmpFunc_api_Ratio [.row 1000 2 0 ((List.map dGRatio.enc a0).length), I x1, I x2, .fn f_ratio_Compare []] [(1000, ⟨2, ty_api_Ratio, x0, false⟩)]) fun (r6 : (List GRatio)) =>
   some (.tup [], [(1000, ⟨2, ty_api_Ratio, List.map dGRatio.enc r6, false⟩)]))
  (brn (x3 == 0) (callD r_slices_heapSortCmpFunc_api_Ratio (cw f_slices_heapSortCmpFunc_api_Ratio [.row 1000 2 0 ((List.map dGRatio.enc a0).length), I x1, I x2, .fn f_ratio_Compare []] [(1000, ⟨2, ty_api_Ratio, x0, false⟩)]) fun (r7 : (List GRatio)) =>
    some (.tup [], [(1000, ⟨2, ty_api_Ratio, List.map dGRatio.enc r7, false⟩)]))
   (brn (!x4) (callD r_slices_breakPatternsCmpFunc_api_Ratio (cw f_slices_breakPatternsCmpFunc_api_Ratio [.row 1000 2 0 ((List.map dGRatio.enc a0).length), I x1, I x2, .fn f_ratio_Compare []] [(1000, ⟨2, ty_api_Ratio, x0, false⟩)]) fun (r8 : (List GRatio)) =>
     k_slices_pdqsortCmpFunc_api_Ratio_1010 a0 x1 x2 x3 x4 x5 r8)
    (k_slices_pdqsortCmpFunc_api_Ratio_1010v1 a0 x0 x1 x2 x3 x4 x5)))) = some y) : k_slices_pdqsortCmpFunc_api_Ratio_1 a0 x0 x1 x2 x3 x4 x5 = some y :=
  pt_of zT [20, 17, 15, 10] (by kernel_rfl) h

theorem t_slices_pdqsortCmpFunc_api_Ratio_1010 (a0 : List GRatio) (x1 : Int) (x2 : Int) (x3 : Int) (x4 : Bool) (x5 : Bool) (r8 : (List GRatio)) {y : AV × Mem} (h : (
  chk (0 + (List.map dGRatio.enc a0).length ≤ (List.map dGRatio.enc r8).length) <|
  callD r_slices_choosePivotCmpFunc_api_Ratio (cw f_slices_choosePivotCmpFunc_api_Ratio [.sl 2 (List.take ((List.map dGRatio.enc a0).length) (List.map dGRatio.enc r8)), I x1, I x2, .fn f_ratio_Compare []] []) fun (r9 : Int × Int) =>
  brn (r9.snd == 2) (callD r_slices_reverseRangeCmpFunc_api_Ratio (cw f_slices_reverseRangeCmpFunc_api_Ratio [.row 1000 2 0 ((List.map dGRatio.enc a0).length), I x1, I x2, .fn f_ratio_Compare []] [(1000, ⟨2, ty_api_Ratio, List.map dGRatio.enc r8, false⟩)]) fun (r10 : (List GRatio)) =>
   k_slices_pdqsortCmpFunc_api_Ratio_1015 a0 x1 x2 x4 x5 (List.map dGRatio.enc r10) (w64 (x3 - 1)) (w64 (w64 (x2 - 1) - w64 (r9.fst - x1))))
  (k_slices_pdqsortCmpFunc_api_Ratio_1015v1 a0 x1 x2 x4 x5 (List.map dGRatio.enc r8) (w64 (x3 - 1)) r9.fst r9.snd)) = some y) : k_slices_pdqsortCmpFunc_api_Ratio_1010 a0 x1 x2 x3 x4 x5 r8 = some y :=
  pt_of zT [20, 17, 15, 10] (by kernel_rfl) h

theorem t_slices_pdqsortCmpFunc_api_Ratio_1010v1 (a0 : List GRatio) (x0 : List (List AV)) (x1 : Int) (x2 : Int) (x3 : Int) (x4 : Bool) (x5 : Bool) {y : AV × Mem} (h : (
  chk (0 + (List.map dGRatio.enc a0).length ≤ x0.length) <|
  callD r_slices_choosePivotCmpFunc_api_Ratio (cw f_slices_choosePivotCmpFunc_api_Ratio [.sl 2 (List.take ((List.map dGRatio.enc a0).length) x0), I x1, I x2, .fn f_ratio_Compare []] []) fun (r18 : Int × Int) =>
  brn (r18.snd == 2) (callD r_slices_reverseRangeCmpFunc_api_Ratio (cw f_slices_reverseRangeCmpFunc_api_Ratio [.row 1000 2 0 ((List.map dGRatio.enc a0).length), I x1, I x2, .fn f_ratio_Compare []] [(1000, ⟨2, ty_api_Ratio, x0, false⟩)]) fun (r19 : (List GRatio)) =>
   k_slices_pdqsortCmpFunc_api_Ratio_1015 a0 x1 x2 x4 x5 (List.map dGRatio.enc r19) x3 (w64 (w64 (x2 - 1) - w64 (r18.fst - x1))))
  (k_slices_pdqsortCmpFunc_api_Ratio_1015v1 a0 x1 x2 x4 x5 x0 x3 r18.fst r18.snd)) = some y) : k_slices_pdqsortCmpFunc_api_Ratio_1010v1 a0 x0 x1 x2 x3 x4 x5 = some y :=
  pt_of zT [20, 17, 15, 10] (by kernel_rfl) h

theorem t_slices_pdqsortCmpFunc_api_Ratio_1015 (a0 : List GRatio) (x1 : Int) (x2 : Int) (x4 : Bool) (x5 : Bool) (x11 : List (List AV)) (x12 : Int) (x13 : Int) {y : AV × Mem} (h : (
  brn x4 (brn x5 (brn (1 == 1) (callD r_slices_partialInsertionSortCmpFunc_api_Ratio (cw f_slices_partialInsertionSortCmpFunc_api_Ratio [.row 1000 2 0 ((List.map dGRatio.enc a0).length), I x1, I x2, .fn f_ratio_Compare []] [(1000, ⟨2, ty_api_Ratio, x11, false⟩)]) fun (r20 : Bool × (List GRatio)) =>
     brn r20.fst (some (.tup [], [(1000, ⟨2, ty_api_Ratio, List.map dGRatio.enc r20.snd, false⟩)]))
     (k_slices_pdqsortCmpFunc_api_Ratio_1017 a0 x1 x2 x4 x5 (List.map dGRatio.enc r20.snd) x12 x13))
    (k_slices_pdqsortCmpFunc_api_Ratio_1017v1 a0 x1 x2 x4 x5 x11 x12 x13))
   (k_slices_pdqsortCmpFunc_api_Ratio_1017v1 a0 x1 x2 x4 x5 x11 x12 x13))
  (k_slices_pdqsortCmpFunc_api_Ratio_1017v1 a0 x1 x2 x4 x5 x11 x12 x13)) = some y) : k_slices_pdqsortCmpFunc_api_Ratio_1015 a0 x1 x2 x4 x5 x11 x12 x13 = some y :=
  pt_of zT [20, 17, 15, 10] (by kernel_rfl) h

theorem t_slices_pdqsortCmpFunc_api_Ratio_1015v1 (a0 : List GRatio) (x1 : Int) (x2 : Int) (x4 : Bool) (x5 : Bool) (x14 : List (List AV)) (x15 : Int) (x16 : Int) (x17 : Int) {y : AV × Mem} (h : (
  brn x4 (brn x5 (brn (x17 == 1) (callD r_slices_partialInsertionSortCmpFunc_api_Ratio (cw f_slices_partialInsertionSortCmpFunc_api_Ratio [.row 1000 2 0 ((List.map dGRatio.enc a0).length), I x1, I x2, .fn f_ratio_Compare []] [(1000, ⟨2, ty_api_Ratio, x14, false⟩)]) fun (r27 : Bool × (List GRatio)) =>
     brn r27.fst (some (.tup [], [(1000, ⟨2, ty_api_Ratio, List.map dGRatio.enc r27.snd, false⟩)]))
     (k_slices_pdqsortCmpFunc_api_Ratio_1017 a0 x1 x2 x4 x5 (List.map dGRatio.enc r27.snd) x15 x16))
    (k_slices_pdqsortCmpFunc_api_Ratio_1017v1 a0 x1 x2 x4 x5 x14 x15 x16))
   (k_slices_pdqsortCmpFunc_api_Ratio_1017v1 a0 x1 x2 x4 x5 x14 x15 x16))
  (k_slices_pdqsortCmpFunc_api_Ratio_1017v1 a0 x1 x2 x4 x5 x14 x15 x16)) = some y) : k_slices_pdqsortCmpFunc_api_Ratio_1015v1 a0 x1 x2 x4 x5 x14 x15 x16 x17 = some y :=
  pt_of zT [20, 17, 15, 10] (by kernel_rfl) h

theorem t_slices_pdqsortCmpFunc_api_Ratio_1017 (a0 : List GRatio) (x1 : Int) (x2 : Int) (x4 : Bool) (x5 : Bool) (x21 : List (List AV)) (x22 : Int) (x23 : Int) {y : AV × Mem} (h : (
  brn (decide (0 < x1)) (chk ((0 : Int) ≤ (w64 (x1 - 1))) <|
   chk ((w64 (x1 - 1) : Int) < ((↑(List.map dGRatio.enc a0).length : Int))) <|
   elemD dGRatio x21 (0 + (w64 (x1 - 1)).toNat) fun (c28 : GRatio) =>
   chk ((0 : Int) ≤ x23) <|
   chk ((x23 : Int) < ((↑(List.map dGRatio.enc a0).length : Int))) <|
   elemD dGRatio x21 (0 + x23.toNat) fun (c29 : GRatio) =>
   callD r_ratio_Compare (cw f_ratio_Compare [.agg (dGRatio.enc c28), .agg (dGRatio.enc c29)] []) fun (r30 : Int) =>
   brn (!decide (r30 < 0)) (callD r_slices_partitionEqualCmpFunc_api_Ratio (cw f_slices_partitionEqualCmpFunc_api_Ratio [.row 1000 2 0 ((List.map dGRatio.enc a0).length), I x1, I x2, I x23, .fn f_ratio_Compare []] [(1000, ⟨2, ty_api_Ratio, x21, false⟩)]) fun (r31 : Int × (List GRatio)) =>
    k_slices_pdqsortCmpFunc_api_Ratio_1 a0 (List.map dGRatio.enc r31.snd) r31.fst x2 x22 x4 x5)
   (k_slices_pdqsortCmpFunc_api_Ratio_1020 a0 x1 x2 x4 x5 x21 x22 x23))
  (k_slices_pdqsortCmpFunc_api_Ratio_1020 a0 x1 x2 x4 x5 x21 x22 x23)) = some y) : k_slices_pdqsortCmpFunc_api_Ratio_1017 a0 x1 x2 x4 x5 x21 x22 x23 = some y :=
  pt_of zT [20, 17, 15, 10] (by kernel_rfl) h

theorem t_slices_pdqsortCmpFunc_api_Ratio_1017v1 (a0 : List GRatio) (x1 : Int) (x2 : Int) (x4 : Bool) (x5 : Bool) (x24 : List (List AV)) (x25 : Int) (x26 : Int) {y : AV × Mem} (h : (
  brn (decide (0 < x1)) (chk ((0 : Int) ≤ (w64 (x1 - 1))) <|
   chk ((w64 (x1 - 1) : Int) < ((↑(List.map dGRatio.enc a0).length : Int))) <|
   elemD dGRatio x24 (0 + (w64 (x1 - 1)).toNat) fun (c35 : GRatio) =>
   chk ((0 : Int) ≤ x26) <|
   chk ((x26 : Int) < ((↑(List.map dGRatio.enc a0).length : Int))) <|
   elemD dGRatio x24 (0 + x26.toNat) fun (c36 : GRatio) =>
   callD r_ratio_Compare (cw f_ratio_Compare [.agg (dGRatio.enc c35), .agg (dGRatio.enc c36)] []) fun (r37 : Int) =>
   brn (!decide (r37 < 0)) (callD r_slices_partitionEqualCmpFunc_api_Ratio (cw f_slices_partitionEqualCmpFunc_api_Ratio [.row 1000 2 0 ((List.map dGRatio.enc a0).length), I x1, I x2, I x26, .fn f_ratio_Compare []] [(1000, ⟨2, ty_api_Ratio, x24, false⟩)]) fun (r38 : Int × (List GRatio)) =>
    k_slices_pdqsortCmpFunc_api_Ratio_1 a0 (List.map dGRatio.enc r38.snd) r38.fst x2 x25 x4 x5)
   (k_slices_pdqsortCmpFunc_api_Ratio_1020 a0 x1 x2 x4 x5 x24 x25 x26))
  (k_slices_pdqsortCmpFunc_api_Ratio_1020 a0 x1 x2 x4 x5 x24 x25 x26)) = some y) : k_slices_pdqsortCmpFunc_api_Ratio_1017v1 a0 x1 x2 x4 x5 x24 x25 x26 = some y :=
  pt_of zT [20, 17, 15, 10] (by kernel_rfl) h

theorem t_slices_pdqsortCmpFunc_api_Ratio_1020 (a0 : List GRatio) (x1 : Int) (x2 : Int) (x4 : Bool) (x5 : Bool) (x32 : List (List AV)) (x33 : Int) (x34 : Int) {y : AV × Mem} (h : (
  callD r_slices_partitionCmpFunc_api_Ratio (cw f_slices_partitionCmpFunc_api_Ratio [.row 1000 2 0 ((List.map dGRatio.enc a0).length), I x1, I x2, I x34, .fn f_ratio_Compare []] [(1000, ⟨2, ty_api_Ratio, x32, false⟩)]) fun (r39 : (Int × Bool) × (List GRatio)) =>
  chk ((8 : Int) ≠ 0) <|
  brn (decide (w64 (r39.fst.fst - x1) < w64 (x2 - r39.fst.fst))) (callD r_slices_pdqsortCmpFunc_api_Ratio (cw f_slices_pdqsortCmpFunc_api_Ratio [.row 1000 2 0 ((List.map dGRatio.enc a0).length), I x1, I r39.fst.fst, I x33, .fn f_ratio_Compare []] [(1000, ⟨2, ty_api_Ratio, List.map dGRatio.enc r39.snd, false⟩)]) fun (r40 : (List GRatio)) =>
   k_slices_pdqsortCmpFunc_api_Ratio_1 a0 (List.map dGRatio.enc r40) (w64 (r39.fst.fst + 1)) x2 x33 (decide (w64 ((w64 (x2 - x1)).tdiv 8) ≤ w64 (r39.fst.fst - x1))) r39.fst.snd)
  (callD r_slices_pdqsortCmpFunc_api_Ratio (cw f_slices_pdqsortCmpFunc_api_Ratio [.row 1000 2 0 ((List.map dGRatio.enc a0).length), I (w64 (r39.fst.fst + 1)), I x2, I x33, .fn f_ratio_Compare []] [(1000, ⟨2, ty_api_Ratio, List.map dGRatio.enc r39.snd, false⟩)]) fun (r41 : (List GRatio)) =>
   k_slices_pdqsortCmpFunc_api_Ratio_1 a0 (List.map dGRatio.enc r41) x1 r39.fst.fst x33 (decide (w64 ((w64 (x2 - x1)).tdiv 8) ≤ w64 (x2 - r39.fst.fst))) r39.fst.snd)) = some y) : k_slices_pdqsortCmpFunc_api_Ratio_1020 a0 x1 x2 x4 x5 x32 x33 x34 = some y :=
  pt_of zT [20, 17, 15, 10] (by kernel_rfl) h

theorem e_slices_pdqsortCmpFunc_api_Ratio (a0 : List GRatio) (a1 : Int) (a2 : Int) (a3 : Int) {y : AV × Mem} (h : (
  k_slices_pdqsortCmpFunc_api_Ratio_1 a0 (List.map dGRatio.enc a0) a1 a2 a3 true true) = some y) : cw f_slices_pdqsortCmpFunc_api_Ratio [.row 1000 2 0 (List.length (List.map dGRatio.enc a0)), I a1, I a2, I a3, .fn f_ratio_Compare []] [(1000, ⟨2, ty_api_Ratio, List.map dGRatio.enc a0, false⟩)] = some y :=
  callw_tree R_slices_pdqsortCmpFunc_api_Ratio zT [20, 17, 15, 10] (by kernel_rfl) (by kernel_rfl) (by kernel_rfl) (by kernel_rfl) (by kernel_rfl) h

theorem e_bits_Len (a0 : Int) {y : AV × Mem} (h : (
  callD r_bits_Len64 (cw f_bits_Len64 [.v (.int .u64 a0)] []) fun (r0 : Int) =>
  some (I r0, [])) = some y) : cw f_bits_Len [.v (.int .u64 a0)] [] = some y :=
  callw_tree R_bits_Len zT [] (by kernel_rfl) (by kernel_rfl) (by kernel_rfl) (by kernel_rfl) (by kernel_rfl) h

noncomputable def k_conversion_bends_1 (a0 : List GPoint) (x3 : List (List AV)) (x4 : GconversionSteps) (x5 : GRatio) (x6 : Int) : Option (AV × Mem) := pt R_conversion_bends 1 ⟨[(0, .sl 4 (List.map dGPoint.enc a0)), (4, .row 4 4 0 (List.length x3)), (5, .loc 5 1 0 0), (6, .loc 6 2 0 0), (7, I x6)], [(4, ⟨4, ty_api_Point, x3, false⟩), (5, ⟨1, ty_conversion_steps, [dGconversionSteps.enc x4], true⟩), (6, ⟨2, ty_api_Ratio, [dGRatio.enc x5], true⟩)]⟩

theorem t_conversion_bends_1 (a0 : List GPoint) (x3 : List (List AV)) (x4 : GconversionSteps) (x5 : GRatio) (x6 : Int) {y : AV × Mem} (h : (
  brn (decide (w64 (x6 + 1) < (↑(List.map dGPoint.enc a0).length : Int))) (chk ((0 : Int) ≤ x6) <|
   elemD dGPoint (List.map dGPoint.enc a0) x6.toNat fun (c7 : GPoint) =>
   chk ((0 : Int) ≤ (w64 (x6 + 1))) <|
   elemD dGPoint (List.map dGPoint.enc a0) ((w64 (x6 + 1)).toNat) fun (c8 : GPoint) =>
   callD r_conversion_steps_slope (cw f_conversion_steps_slope [.loc 1000 1 0 0, .agg (dGPoint.enc c7), .agg (dGPoint.enc c8)] [(1000, ⟨1, ty_conversion_steps, [dGconversionSteps.enc x4], true⟩)]) fun (r9 : GRatio × GconversionSteps) =>
   brn (!(r9.fst.Num == x5.Num && (r9.fst.Den == x5.Den && true))) (chk ((0 : Int) ≤ x6) <|
    elemD dGPoint (List.map dGPoint.enc a0) x6.toNat fun (c10 : GPoint) =>
    chk (x3.length = x3.length) <|
    chk ((x3.length + 1) * (32 + 1) ≤ 1099511627776) <|
    chk ((x3 ++ [[AV.v (Go.Value.int IntKind.i64 c10.X.Num), AV.v (Go.Value.int IntKind.i64 c10.X.Den), AV.v (Go.Value.int IntKind.i64 c10.Y.Num), AV.v (Go.Value.int IntKind.i64 c10.Y.Den)]]).length = (x3 ++ [[AV.v (Go.Value.int IntKind.i64 c10.X.Num), AV.v (Go.Value.int IntKind.i64 c10.X.Den), AV.v (Go.Value.int IntKind.i64 c10.Y.Num), AV.v (Go.Value.int IntKind.i64 c10.Y.Den)]]).length) <|
    k_conversion_bends_1 a0 (x3 ++ ([dGPoint.enc c10])) r9.snd r9.fst (w64 (x6 + 1)))
   (k_conversion_bends_1 a0 x3 r9.snd r9.fst (w64 (x6 + 1))))
  (brn (x4.e != 0) (some (.tup [.sl 4 (List.map dGPoint.enc []), I x4.e], []))
   (chk (0 + x3.length ≤ x3.length) <|
    some (.tup [.sl 4 (List.take x3.length x3), I 0], [])))) = some y) : k_conversion_bends_1 a0 x3 x4 x5 x6 = some y :=
  pt_of zT [] (by kernel_rfl) h

theorem e_conversion_bends (a0 : List GPoint) {y : AV × Mem} (h : (
  chk ((0 : Int) ≤ 0) <|
  elemD dGPoint (List.map dGPoint.enc a0) (Int.toNat 0) fun (c0 : GPoint) =>
  chk ((0 : Int) ≤ 1) <|
  elemD dGPoint (List.map dGPoint.enc a0) (Int.toNat 1) fun (c1 : GPoint) =>
  callD r_conversion_steps_slope (cw f_conversion_steps_slope [.loc 1000 1 0 0, .agg (dGPoint.enc c0), .agg (dGPoint.enc c1)] [(1000, ⟨1, ty_conversion_steps, [dGconversionSteps.enc ⟨0⟩], true⟩)]) fun (r2 : GRatio × GconversionSteps) =>
  k_conversion_bends_1 a0 [] r2.snd r2.fst 1) = some y) : cw f_conversion_bends [.sl 4 (List.map dGPoint.enc a0)] [] = some y :=
  callw_tree R_conversion_bends zT [] (by kernel_rfl) (by kernel_rfl) (by kernel_rfl) (by kernel_rfl) (by kernel_rfl) h

theorem e_conversion_pointAt (a0 : List GPoint) (a1 : GRatio) {y : AV × Mem} (h : (
  callD r_conversion_eval (cw f_conversion_eval [.sl 4 (List.map dGPoint.enc a0), .agg (dGRatio.enc a1)] []) fun (r0 : GRatio × Int) =>
  brn (r0.snd != 0) (some (.tup [.agg (dGPoint.enc (⟨⟨0, 0⟩, ⟨0, 0⟩⟩)), I r0.snd], []))
  (some (.tup [.agg (dGPoint.enc (⟨⟨a1.Num, a1.Den⟩, ⟨r0.fst.Num, r0.fst.Den⟩⟩)), I 0], []))) = some y) : cw f_conversion_pointAt [.sl 4 (List.map dGPoint.enc a0), .agg (dGRatio.enc a1)] [] = some y :=
  callw_tree R_conversion_pointAt zT [] (by kernel_rfl) (by kernel_rfl) (by kernel_rfl) (by kernel_rfl) (by kernel_rfl) h

theorem e_ratio_reduced (a0 : GratioSigned) (a1 : Int) {y : AV × Mem} (h : (
  callD r_ratio_wide_mod (cw f_ratio_wide_mod [.agg (dGratioWide.enc a0.abs), .v (.int .u64 a1)] []) fun (r0 : Int) =>
  callD r_ratio_gcd (cw f_ratio_gcd [.v (.int .u64 r0), .v (.int .u64 a1)] []) fun (r1 : Int) =>
  callD r_ratio_wide_over (cw f_ratio_wide_over [.agg (dGratioWide.enc a0.abs), .v (.int .u64 r1)] []) fun (r2 : GratioWide) =>
  chk ((r1 : Int) ≠ 0) <|
  callD r_ratio_fitted (cw f_ratio_fitted [B a0.neg, .agg (dGratioWide.enc r2), .agg (dGratioWide.enc (⟨0, wu64 (a1.tdiv r1)⟩))] []) fun (r3 : GRatio × Int) =>
  some (.tup [.agg (dGRatio.enc r3.fst), I r3.snd], [])) = some y) : cw f_ratio_reduced [.agg (dGratioSigned.enc a0), .v (.int .u64 a1)] [] = some y :=
  callw_tree R_ratio_reduced zT [] (by kernel_rfl) (by kernel_rfl) (by kernel_rfl) (by kernel_rfl) (by kernel_rfl) h

theorem e_ratio_Less (a0 : GRatio) (a1 : GRatio) {y : AV × Mem} (h : (
  callD r_ratio_Compare (cw f_ratio_Compare [.agg (dGRatio.enc a0), .agg (dGRatio.enc a1)] []) fun (r0 : Int) =>
  some (B (r0 == -1), [])) = some y) : cw f_ratio_Less [.agg (dGRatio.enc a0), .agg (dGRatio.enc a1)] [] = some y :=
  callw_tree R_ratio_Less zT [] (by kernel_rfl) (by kernel_rfl) (by kernel_rfl) (by kernel_rfl) (by kernel_rfl) h

noncomputable def k_distribution_Below_1 (a0 : GDistribution) (a1 : Int) (x1 : Int) (x2 : Int) : Option (AV × Mem) := pt R_distribution_Below 1 ⟨[(1, I a1), (2, .loc 2 1 0 0), (5, I x1), (6, I x2)], [(2, ⟨1, ty_api_Distribution, [dGDistribution.enc a0], true⟩)]⟩

theorem t_distribution_Below_1 (a0 : GDistribution) (a1 : Int) (x1 : Int) (x2 : Int) {y : AV × Mem} (h : (
  brn (decide (x2 < (↑(List.map dI_i64.enc a0.Counts).length : Int))) (brn (decide (x2 < a1)) (chk ((0 : Int) ≤ x2) <|
    elemD dI_i64 (List.map dI_i64.enc a0.Counts) x2.toNat fun (c3 : Int) =>
    k_distribution_Below_1 a0 a1 (w64 (x1 + c3)) (w64 (x2 + 1)))
   (some (I x1, [])))
  (some (I x1, []))) = some y) : k_distribution_Below_1 a0 a1 x1 x2 = some y :=
  pt_of zT [] (by kernel_rfl) h

theorem e_distribution_Below (a0 : GDistribution) (a1 : Int) {y : AV × Mem} (h : (
  callD r_distribution_Valid (cw f_distribution_Valid [.agg (dGDistribution.enc a0)] []) fun (r0 : Bool) =>
  brn (!r0) (some (I 0, []))
  (k_distribution_Below_1 a0 a1 0 0)) = some y) : cw f_distribution_Below [.agg (dGDistribution.enc a0), I a1] [] = some y :=
  callw_tree R_distribution_Below zT [] (by kernel_rfl) (by kernel_rfl) (by kernel_rfl) (by kernel_rfl) (by kernel_rfl) h

theorem e_cmp_Compare_uint64 (a0 : Int) (a1 : Int) {y : AV × Mem} (h : (
  callD r_cmp_isNaN_uint64 (cw f_cmp_isNaN_uint64 [.v (.int .u64 a0)] []) fun (r0 : Bool) =>
  callD r_cmp_isNaN_uint64 (cw f_cmp_isNaN_uint64 [.v (.int .u64 a1)] []) fun (r1 : Bool) =>
  brn r0 (brn r1 (some (I 0, []))
   (some (I (-1), [])))
  (brn r1 (some (I 1, []))
   (brn (decide (a0 < a1)) (some (I (-1), []))
    (brn (decide (a1 < a0)) (some (I 1, []))
     (some (I 0, [])))))) = some y) : cw f_cmp_Compare_uint64 [.v (.int .u64 a0), .v (.int .u64 a1)] [] = some y :=
  callw_tree R_cmp_Compare_uint64 zT [] (by kernel_rfl) (by kernel_rfl) (by kernel_rfl) (by kernel_rfl) (by kernel_rfl) h

noncomputable def k_slices_insertionSortCmpFunc_api_Ratio_1 (a0 : List GRatio) (a1 : Int) (a2 : Int) (x0 : List (List AV)) (x1 : Int) : Option (AV × Mem) := pt R_slices_insertionSortCmpFunc_api_Ratio 1 ⟨[(0, .row 1000 2 0 ((List.map dGRatio.enc a0).length)), (1, I a1), (2, I a2), (3, .fn f_ratio_Compare []), (8, I x1)], [(1000, ⟨2, ty_api_Ratio, x0, false⟩)]⟩

noncomputable def k_slices_insertionSortCmpFunc_api_Ratio_2 (a0 : List GRatio) (a1 : Int) (a2 : Int) (x1 : Int) (x2 : List (List AV)) (x3 : Int) : Option (AV × Mem) := pt R_slices_insertionSortCmpFunc_api_Ratio 2 ⟨[(0, .row 1000 2 0 ((List.map dGRatio.enc a0).length)), (1, I a1), (2, I a2), (3, .fn f_ratio_Compare []), (8, I x1), (9, I x3)], [(1000, ⟨2, ty_api_Ratio, x2, false⟩)]⟩

theorem t_slices_insertionSortCmpFunc_api_Ratio_1 (a0 : List GRatio) (a1 : Int) (a2 : Int) (x0 : List (List AV)) (x1 : Int) {y : AV × Mem} (h : (
  brn (decide (x1 < a2)) (k_slices_insertionSortCmpFunc_api_Ratio_2 a0 a1 a2 x1 x0 x1)
  (some (.tup [], [(1000, ⟨2, ty_api_Ratio, x0, false⟩)]))) = some y) : k_slices_insertionSortCmpFunc_api_Ratio_1 a0 a1 a2 x0 x1 = some y :=
  pt_of zT [] (by kernel_rfl) h

theorem t_slices_insertionSortCmpFunc_api_Ratio_2 (a0 : List GRatio) (a1 : Int) (a2 : Int) (x1 : Int) (x2 : List (List AV)) (x3 : Int) {y : AV × Mem} (h : (
  brn (decide (a1 < x3)) (chk ((0 : Int) ≤ x3) <|
   chk ((x3 : Int) < ((↑(List.map dGRatio.enc a0).length : Int))) <|
   elemD dGRatio x2 (0 + x3.toNat) fun (c4 : GRatio) =>
   chk ((0 : Int) ≤ (w64 (x3 - 1))) <|
   chk ((w64 (x3 - 1) : Int) < ((↑(List.map dGRatio.enc a0).length : Int))) <|
   elemD dGRatio x2 (0 + (w64 (x3 - 1)).toNat) fun (c5 : GRatio) =>
   callD r_ratio_Compare (cw f_ratio_Compare [.agg (dGRatio.enc c4), .agg (dGRatio.enc c5)] []) fun (r6 : Int) =>
   brn (decide (r6 < 0)) (chk ((0 : Int) ≤ (w64 (x3 - 1))) <|
    chk ((w64 (x3 - 1) : Int) < ((↑(List.map dGRatio.enc a0).length : Int))) <|
    elemD dGRatio x2 (0 + (w64 (x3 - 1)).toNat) fun (c7 : GRatio) =>
    chk ((0 : Int) ≤ x3) <|
    chk ((x3 : Int) < ((↑(List.map dGRatio.enc a0).length : Int))) <|
    elemD dGRatio x2 (0 + x3.toNat) fun (c8 : GRatio) =>
    chk ((0 : Int) ≤ x3) <|
    chk ((x3 : Int) < ((↑(List.map dGRatio.enc a0).length : Int))) <|
    elemD dGRatio x2 (0 + x3.toNat) fun (c9 : GRatio) =>
    chk ((0 : Int) ≤ (w64 (x3 - 1))) <|
    chk ((w64 (x3 - 1) : Int) < ((↑(List.map dGRatio.enc a0).length : Int))) <|
    elemD dGRatio (List.set x2 (0 + x3.toNat) (dGRatio.enc c7)) (0 + (w64 (x3 - 1)).toNat) fun (c10 : GRatio) =>
    k_slices_insertionSortCmpFunc_api_Ratio_2 a0 a1 a2 x1 (List.set (List.set x2 (0 + x3.toNat) (dGRatio.enc c7)) (0 + (w64 (x3 - 1)).toNat) (dGRatio.enc c8)) (w64 (x3 - 1)))
   (k_slices_insertionSortCmpFunc_api_Ratio_1 a0 a1 a2 x2 (w64 (x1 + 1))))
  (k_slices_insertionSortCmpFunc_api_Ratio_1 a0 a1 a2 x2 (w64 (x1 + 1)))) = some y) : k_slices_insertionSortCmpFunc_api_Ratio_2 a0 a1 a2 x1 x2 x3 = some y :=
  pt_of zT [] (by kernel_rfl) h

theorem e_slices_insertionSortCmpFunc_api_Ratio (a0 : List GRatio) (a1 : Int) (a2 : Int) {y : AV × Mem} (h : (
  k_slices_insertionSortCmpFunc_api_Ratio_1 a0 a1 a2 (List.map dGRatio.enc a0) (w64 (a1 + 1))) = some y) : cw f_slices_insertionSortCmpFunc_api_Ratio [.row 1000 2 0 (List.length (List.map dGRatio.enc a0)), I a1, I a2, .fn f_ratio_Compare []] [(1000, ⟨2, ty_api_Ratio, List.map dGRatio.enc a0, false⟩)] = some y :=
  callw_tree R_slices_insertionSortCmpFunc_api_Ratio zT [] (by kernel_rfl) (by kernel_rfl) (by kernel_rfl) (by kernel_rfl) (by kernel_rfl) h

noncomputable def k_slices_heapSortCmpFunc_api_Ratio_1 (a0 : List GRatio) (a1 : Int) (a2 : Int) (x0 : List (List AV)) (x1 : Int) : Option (AV × Mem) := pt R_slices_heapSortCmpFunc_api_Ratio 1 ⟨[(0, .row 1000 2 0 ((List.map dGRatio.enc a0).length)), (3, .fn f_ratio_Compare []), (8, I a1), (9, I 0), (10, I (w64 (a2 - a1))), (11, I x1)], [(1000, ⟨2, ty_api_Ratio, x0, false⟩)]⟩

noncomputable def k_slices_heapSortCmpFunc_api_Ratio_2 (a0 : List GRatio) (a1 : Int) (x3 : List (List AV)) (x4 : Int) : Option (AV × Mem) := pt R_slices_heapSortCmpFunc_api_Ratio 2 ⟨[(0, .row 1000 2 0 ((List.map dGRatio.enc a0).length)), (3, .fn f_ratio_Compare []), (8, I a1), (9, I 0), (12, I x4)], [(1000, ⟨2, ty_api_Ratio, x3, false⟩)]⟩

theorem t_slices_heapSortCmpFunc_api_Ratio_1 (a0 : List GRatio) (a1 : Int) (a2 : Int) (x0 : List (List AV)) (x1 : Int) {y : AV × Mem} (h : (
  brn (decide (0 ≤ x1)) (callD r_slices_siftDownCmpFunc_api_Ratio (cw f_slices_siftDownCmpFunc_api_Ratio [.row 1000 2 0 ((List.map dGRatio.enc a0).length), I x1, I (w64 (a2 - a1)), I a1, .fn f_ratio_Compare []] [(1000, ⟨2, ty_api_Ratio, x0, false⟩)]) fun (r2 : (List GRatio)) =>
   k_slices_heapSortCmpFunc_api_Ratio_1 a0 a1 a2 (List.map dGRatio.enc r2) (w64 (x1 - 1)))
  (k_slices_heapSortCmpFunc_api_Ratio_2 a0 a1 x0 (w64 (w64 (a2 - a1) - 1)))) = some y) : k_slices_heapSortCmpFunc_api_Ratio_1 a0 a1 a2 x0 x1 = some y :=
  pt_of zT [] (by kernel_rfl) h

theorem t_slices_heapSortCmpFunc_api_Ratio_2 (a0 : List GRatio) (a1 : Int) (x3 : List (List AV)) (x4 : Int) {y : AV × Mem} (h : (
  brn (decide (0 ≤ x4)) (chk ((0 : Int) ≤ (w64 (a1 + x4))) <|
   chk ((w64 (a1 + x4) : Int) < ((↑(List.map dGRatio.enc a0).length : Int))) <|
   elemD dGRatio x3 (0 + (w64 (a1 + x4)).toNat) fun (c5 : GRatio) =>
   chk ((0 : Int) ≤ a1) <|
   chk ((a1 : Int) < ((↑(List.map dGRatio.enc a0).length : Int))) <|
   elemD dGRatio x3 (0 + a1.toNat) fun (c6 : GRatio) =>
   chk ((0 : Int) ≤ a1) <|
   chk ((a1 : Int) < ((↑(List.map dGRatio.enc a0).length : Int))) <|
   elemD dGRatio x3 (0 + a1.toNat) fun (c7 : GRatio) =>
   chk ((0 : Int) ≤ (w64 (a1 + x4))) <|
   chk ((w64 (a1 + x4) : Int) < ((↑(List.map dGRatio.enc a0).length : Int))) <|
   elemD dGRatio (List.set x3 (0 + a1.toNat) (dGRatio.enc c5)) (0 + (w64 (a1 + x4)).toNat) fun (c8 : GRatio) =>
   callD r_slices_siftDownCmpFunc_api_Ratio (cw f_slices_siftDownCmpFunc_api_Ratio [.row 1000 2 0 ((List.map dGRatio.enc a0).length), I 0, I x4, I a1, .fn f_ratio_Compare []] [(1000, ⟨2, ty_api_Ratio, List.set (List.set x3 (0 + a1.toNat) (dGRatio.enc c5)) (0 + (w64 (a1 + x4)).toNat) (dGRatio.enc c6), false⟩)]) fun (r9 : (List GRatio)) =>
   k_slices_heapSortCmpFunc_api_Ratio_2 a0 a1 (List.map dGRatio.enc r9) (w64 (x4 - 1)))
  (some (.tup [], [(1000, ⟨2, ty_api_Ratio, x3, false⟩)]))) = some y) : k_slices_heapSortCmpFunc_api_Ratio_2 a0 a1 x3 x4 = some y :=
  pt_of zT [] (by kernel_rfl) h

theorem e_slices_heapSortCmpFunc_api_Ratio (a0 : List GRatio) (a1 : Int) (a2 : Int) {y : AV × Mem} (h : (
  chk ((2 : Int) ≠ 0) <|
  k_slices_heapSortCmpFunc_api_Ratio_1 a0 a1 a2 (List.map dGRatio.enc a0) (w64 ((w64 (w64 (a2 - a1) - 1)).tdiv 2))) = some y) : cw f_slices_heapSortCmpFunc_api_Ratio [.row 1000 2 0 (List.length (List.map dGRatio.enc a0)), I a1, I a2, .fn f_ratio_Compare []] [(1000, ⟨2, ty_api_Ratio, List.map dGRatio.enc a0, false⟩)] = some y :=
  callw_tree R_slices_heapSortCmpFunc_api_Ratio zT [] (by kernel_rfl) (by kernel_rfl) (by kernel_rfl) (by kernel_rfl) (by kernel_rfl) h

noncomputable def k_slices_breakPatternsCmpFunc_api_Ratio_1 (a0 : List GRatio) (a1 : Int) (a2 : Int) (r0 : Int) (x1 : Int) (x2 : List (List AV)) (x3 : Int) : Option (AV × Mem) := pt R_slices_breakPatternsCmpFunc_api_Ratio 1 ⟨[(0, .row 1000 2 0 ((List.map dGRatio.enc a0).length)), (1, I a1), (8, I (w64 (a2 - a1))), (9, .loc 9 1 0 0), (10, .v (.int .u64 r0)), (11, I x3)], [(9, ⟨1, ty_slices_xorshift, [dI_u64.enc x1], true⟩), (1000, ⟨2, ty_api_Ratio, x2, false⟩)]⟩

noncomputable def k_slices_breakPatternsCmpFunc_api_Ratio_1010 (a0 : List GRatio) (a1 : Int) (a2 : Int) (r0 : Int) (x2 : List (List AV)) (x3 : Int) (r4 : Int × Int) : Option (AV × Mem) := pt R_slices_breakPatternsCmpFunc_api_Ratio 1010 ⟨[(0, .row 1000 2 0 ((List.map dGRatio.enc a0).length)), (1, I a1), (8, I (w64 (a2 - a1))), (9, .loc 9 1 0 0), (10, .v (.int .u64 r0)), (11, I x3), (12, I (w64 (w64 (wu64 (↑((r4.fst % Int.ofNat (2 ^ 64)).toNat &&& (wu64 (r0 - 1) % Int.ofNat (2 ^ 64)).toNat) : Int)) - w64 (a2 - a1))))], [(9, ⟨1, ty_slices_xorshift, [dI_u64.enc r4.snd], true⟩), (1000, ⟨2, ty_api_Ratio, x2, false⟩)]⟩

noncomputable def k_slices_breakPatternsCmpFunc_api_Ratio_1010v1 (a0 : List GRatio) (a1 : Int) (a2 : Int) (r0 : Int) (x2 : List (List AV)) (x3 : Int) (r4 : Int × Int) : Option (AV × Mem) := pt R_slices_breakPatternsCmpFunc_api_Ratio 1010 ⟨[(0, .row 1000 2 0 ((List.map dGRatio.enc a0).length)), (1, I a1), (8, I (w64 (a2 - a1))), (9, .loc 9 1 0 0), (10, .v (.int .u64 r0)), (11, I x3), (12, I (w64 (wu64 (↑((r4.fst % Int.ofNat (2 ^ 64)).toNat &&& (wu64 (r0 - 1) % Int.ofNat (2 ^ 64)).toNat) : Int)))), (45, B false)], [(9, ⟨1, ty_slices_xorshift, [dI_u64.enc r4.snd], true⟩), (1000, ⟨2, ty_api_Ratio, x2, false⟩)]⟩

theorem t_slices_breakPatternsCmpFunc_api_Ratio_1 (a0 : List GRatio) (a1 : Int) (a2 : Int) (r0 : Int) (x1 : Int) (x2 : List (List AV)) (x3 : Int) {y : AV × Mem} (h : (
  chk ((4 : Int) ≠ 0) <|
  brn (decide (x3 ≤ w64 (w64 (a1 + w64 (w64 ((w64 (a2 - a1)).tdiv 4) * 2)) + 1))) (callD r_slices_xorshift_Next (cw f_slices_xorshift_Next [.loc 1000 1 0 0] [(1000, ⟨1, ty_slices_xorshift, [dI_u64.enc x1], true⟩)]) fun (r4 : Int × Int) =>
   brn (decide (w64 (a2 - a1) ≤ w64 (wu64 (↑((r4.fst % Int.ofNat (2 ^ 64)).toNat &&& (wu64 (r0 - 1) % Int.ofNat (2 ^ 64)).toNat) : Int)))) (k_slices_breakPatternsCmpFunc_api_Ratio_1010 a0 a1 a2 r0 x2 x3 r4)
   (k_slices_breakPatternsCmpFunc_api_Ratio_1010v1 a0 a1 a2 r0 x2 x3 r4))
  (some (.tup [], [(1000, ⟨2, ty_api_Ratio, x2, false⟩)]))) = some y) : k_slices_breakPatternsCmpFunc_api_Ratio_1 a0 a1 a2 r0 x1 x2 x3 = some y :=
  pt_of zT [10] (by kernel_rfl) h

theorem t_slices_breakPatternsCmpFunc_api_Ratio_1010 (a0 : List GRatio) (a1 : Int) (a2 : Int) (r0 : Int) (x2 : List (List AV)) (x3 : Int) (r4 : Int × Int) {y : AV × Mem} (h : (
  chk ((0 : Int) ≤ (w64 (a1 + w64 (w64 (wu64 (↑((r4.fst % Int.ofNat (2 ^ 64)).toNat &&& (wu64 (r0 - 1) % Int.ofNat (2 ^ 64)).toNat) : Int)) - w64 (a2 - a1))))) <|
  chk ((w64 (a1 + w64 (w64 (wu64 (↑((r4.fst % Int.ofNat (2 ^ 64)).toNat &&& (wu64 (r0 - 1) % Int.ofNat (2 ^ 64)).toNat) : Int)) - w64 (a2 - a1))) : Int) < ((↑(List.map dGRatio.enc a0).length : Int))) <|
  elemD dGRatio x2 (0 + (w64 (a1 + w64 (w64 (wu64 (↑((r4.fst % Int.ofNat (2 ^ 64)).toNat &&& (wu64 (r0 - 1) % Int.ofNat (2 ^ 64)).toNat) : Int)) - w64 (a2 - a1)))).toNat) fun (c5 : GRatio) =>
  chk ((0 : Int) ≤ x3) <|
  chk ((x3 : Int) < ((↑(List.map dGRatio.enc a0).length : Int))) <|
  elemD dGRatio x2 (0 + x3.toNat) fun (c6 : GRatio) =>
  chk ((0 : Int) ≤ x3) <|
  chk ((x3 : Int) < ((↑(List.map dGRatio.enc a0).length : Int))) <|
  elemD dGRatio x2 (0 + x3.toNat) fun (c7 : GRatio) =>
  chk ((0 : Int) ≤ (w64 (a1 + w64 (w64 (wu64 (↑((r4.fst % Int.ofNat (2 ^ 64)).toNat &&& (wu64 (r0 - 1) % Int.ofNat (2 ^ 64)).toNat) : Int)) - w64 (a2 - a1))))) <|
  chk ((w64 (a1 + w64 (w64 (wu64 (↑((r4.fst % Int.ofNat (2 ^ 64)).toNat &&& (wu64 (r0 - 1) % Int.ofNat (2 ^ 64)).toNat) : Int)) - w64 (a2 - a1))) : Int) < ((↑(List.map dGRatio.enc a0).length : Int))) <|
  elemD dGRatio (List.set x2 (0 + x3.toNat) (dGRatio.enc c5)) (0 + (w64 (a1 + w64 (w64 (wu64 (↑((r4.fst % Int.ofNat (2 ^ 64)).toNat &&& (wu64 (r0 - 1) % Int.ofNat (2 ^ 64)).toNat) : Int)) - w64 (a2 - a1)))).toNat) fun (c8 : GRatio) =>
  k_slices_breakPatternsCmpFunc_api_Ratio_1 a0 a1 a2 r0 r4.snd (List.set (List.set x2 (0 + x3.toNat) (dGRatio.enc c5)) (0 + (w64 (a1 + w64 (w64 (wu64 (↑((r4.fst % Int.ofNat (2 ^ 64)).toNat &&& (wu64 (r0 - 1) % Int.ofNat (2 ^ 64)).toNat) : Int)) - w64 (a2 - a1)))).toNat) (dGRatio.enc c6)) (w64 (x3 + 1))) = some y) : k_slices_breakPatternsCmpFunc_api_Ratio_1010 a0 a1 a2 r0 x2 x3 r4 = some y :=
  pt_of zT [10] (by kernel_rfl) h

theorem t_slices_breakPatternsCmpFunc_api_Ratio_1010v1 (a0 : List GRatio) (a1 : Int) (a2 : Int) (r0 : Int) (x2 : List (List AV)) (x3 : Int) (r4 : Int × Int) {y : AV × Mem} (h : (
  chk ((0 : Int) ≤ (w64 (a1 + w64 (wu64 (↑((r4.fst % Int.ofNat (2 ^ 64)).toNat &&& (wu64 (r0 - 1) % Int.ofNat (2 ^ 64)).toNat) : Int))))) <|
  chk ((w64 (a1 + w64 (wu64 (↑((r4.fst % Int.ofNat (2 ^ 64)).toNat &&& (wu64 (r0 - 1) % Int.ofNat (2 ^ 64)).toNat) : Int))) : Int) < ((↑(List.map dGRatio.enc a0).length : Int))) <|
  elemD dGRatio x2 (0 + (w64 (a1 + w64 (wu64 (↑((r4.fst % Int.ofNat (2 ^ 64)).toNat &&& (wu64 (r0 - 1) % Int.ofNat (2 ^ 64)).toNat) : Int)))).toNat) fun (c9 : GRatio) =>
  chk ((0 : Int) ≤ x3) <|
  chk ((x3 : Int) < ((↑(List.map dGRatio.enc a0).length : Int))) <|
  elemD dGRatio x2 (0 + x3.toNat) fun (c10 : GRatio) =>
  chk ((0 : Int) ≤ x3) <|
  chk ((x3 : Int) < ((↑(List.map dGRatio.enc a0).length : Int))) <|
  elemD dGRatio x2 (0 + x3.toNat) fun (c11 : GRatio) =>
  chk ((0 : Int) ≤ (w64 (a1 + w64 (wu64 (↑((r4.fst % Int.ofNat (2 ^ 64)).toNat &&& (wu64 (r0 - 1) % Int.ofNat (2 ^ 64)).toNat) : Int))))) <|
  chk ((w64 (a1 + w64 (wu64 (↑((r4.fst % Int.ofNat (2 ^ 64)).toNat &&& (wu64 (r0 - 1) % Int.ofNat (2 ^ 64)).toNat) : Int))) : Int) < ((↑(List.map dGRatio.enc a0).length : Int))) <|
  elemD dGRatio (List.set x2 (0 + x3.toNat) (dGRatio.enc c9)) (0 + (w64 (a1 + w64 (wu64 (↑((r4.fst % Int.ofNat (2 ^ 64)).toNat &&& (wu64 (r0 - 1) % Int.ofNat (2 ^ 64)).toNat) : Int)))).toNat) fun (c12 : GRatio) =>
  k_slices_breakPatternsCmpFunc_api_Ratio_1 a0 a1 a2 r0 r4.snd (List.set (List.set x2 (0 + x3.toNat) (dGRatio.enc c9)) (0 + (w64 (a1 + w64 (wu64 (↑((r4.fst % Int.ofNat (2 ^ 64)).toNat &&& (wu64 (r0 - 1) % Int.ofNat (2 ^ 64)).toNat) : Int)))).toNat) (dGRatio.enc c10)) (w64 (x3 + 1))) = some y) : k_slices_breakPatternsCmpFunc_api_Ratio_1010v1 a0 a1 a2 r0 x2 x3 r4 = some y :=
  pt_of zT [10] (by kernel_rfl) h

theorem e_slices_breakPatternsCmpFunc_api_Ratio (a0 : List GRatio) (a1 : Int) (a2 : Int) {y : AV × Mem} (h : (
  brn (decide (8 ≤ w64 (a2 - a1))) (callD r_slices_nextPowerOfTwo (cw f_slices_nextPowerOfTwo [I (w64 (a2 - a1))] []) fun (r0 : Int) =>
   chk ((4 : Int) ≠ 0) <|
   k_slices_breakPatternsCmpFunc_api_Ratio_1 a0 a1 a2 r0 (wu64 (w64 (a2 - a1))) (List.map dGRatio.enc a0) (w64 (w64 (a1 + w64 (w64 ((w64 (a2 - a1)).tdiv 4) * 2)) - 1)))
  (some (.tup [], [(1000, ⟨2, ty_api_Ratio, List.map dGRatio.enc a0, false⟩)]))) = some y) : cw f_slices_breakPatternsCmpFunc_api_Ratio [.row 1000 2 0 (List.length (List.map dGRatio.enc a0)), I a1, I a2, .fn f_ratio_Compare []] [(1000, ⟨2, ty_api_Ratio, List.map dGRatio.enc a0, false⟩)] = some y :=
  callw_tree R_slices_breakPatternsCmpFunc_api_Ratio zT [10] (by kernel_rfl) (by kernel_rfl) (by kernel_rfl) (by kernel_rfl) (by kernel_rfl) h

noncomputable def k_slices_choosePivotCmpFunc_api_Ratio_1011 (a0 : List GRatio) (r0 : Int × Int) (r1 : Int × Int) (r2 : Int × Int) : Option (AV × Mem) := pt R_slices_choosePivotCmpFunc_api_Ratio 1011 ⟨[(0, .sl 2 (List.map dGRatio.enc a0)), (3, .fn f_ratio_Compare []), (11, .loc 11 1 0 0), (12, I r0.fst), (13, I r1.fst), (14, I r2.fst)], [(11, ⟨1, ty_i64_2, [dI_i64.enc r2.snd], true⟩)]⟩

noncomputable def k_slices_choosePivotCmpFunc_api_Ratio_1011v1 (a0 : List GRatio) (a1 : Int) (a2 : Int) : Option (AV × Mem) := pt R_slices_choosePivotCmpFunc_api_Ratio 1011 ⟨[(0, .sl 2 (List.map dGRatio.enc a0)), (3, .fn f_ratio_Compare []), (11, .loc 11 1 0 0), (12, I (w64 (a1 + w64 (w64 ((w64 (a2 - a1)).tdiv 4) * 1)))), (13, I (w64 (a1 + w64 (w64 ((w64 (a2 - a1)).tdiv 4) * 2)))), (14, I (w64 (a1 + w64 (w64 ((w64 (a2 - a1)).tdiv 4) * 3)))), (36, B false)], [(11, ⟨1, ty_i64_2, [dI_i64.enc 0], true⟩)]⟩

theorem t_slices_choosePivotCmpFunc_api_Ratio_1011 (a0 : List GRatio) (r0 : Int × Int) (r1 : Int × Int) (r2 : Int × Int) {y : AV × Mem} (h : (
  callD r_slices_medianCmpFunc_api_Ratio (cw f_slices_medianCmpFunc_api_Ratio [.sl 2 (List.map dGRatio.enc a0), I r0.fst, I r1.fst, I r2.fst, .loc 1004 1 0 0, .fn f_ratio_Compare []] [(1004, ⟨1, ty_i64_2, [dI_i64.enc r2.snd], true⟩)]) fun (r3 : Int × Int) =>
  brn (r3.snd == 0) (some (.tup [I r3.fst, I 1], []))
  (brn (r3.snd == 12) (some (.tup [I r3.fst, I 2], []))
   (some (.tup [I r3.fst, I 0], [])))) = some y) : k_slices_choosePivotCmpFunc_api_Ratio_1011 a0 r0 r1 r2 = some y :=
  pt_of zT [11] (by kernel_rfl) h

theorem t_slices_choosePivotCmpFunc_api_Ratio_1011v1 (a0 : List GRatio) (a1 : Int) (a2 : Int) {y : AV × Mem} (h : (
  callD r_slices_medianCmpFunc_api_Ratio (cw f_slices_medianCmpFunc_api_Ratio [.sl 2 (List.map dGRatio.enc a0), I (w64 (a1 + w64 (w64 ((w64 (a2 - a1)).tdiv 4) * 1))), I (w64 (a1 + w64 (w64 ((w64 (a2 - a1)).tdiv 4) * 2))), I (w64 (a1 + w64 (w64 ((w64 (a2 - a1)).tdiv 4) * 3))), .loc 1004 1 0 0, .fn f_ratio_Compare []] [(1004, ⟨1, ty_i64_2, [dI_i64.enc 0], true⟩)]) fun (r4 : Int × Int) =>
  brn (r4.snd == 0) (some (.tup [I r4.fst, I 1], []))
  (brn (r4.snd == 12) (some (.tup [I r4.fst, I 2], []))
   (some (.tup [I r4.fst, I 0], [])))) = some y) : k_slices_choosePivotCmpFunc_api_Ratio_1011v1 a0 a1 a2 = some y :=
  pt_of zT [11] (by kernel_rfl) h

theorem e_slices_choosePivotCmpFunc_api_Ratio (a0 : List GRatio) (a1 : Int) (a2 : Int) {y : AV × Mem} (h : (
  chk ((4 : Int) ≠ 0) <|
  chk ((4 : Int) ≠ 0) <|
  chk ((4 : Int) ≠ 0) <|
  brn (decide (8 ≤ w64 (a2 - a1))) (brn (decide (50 ≤ w64 (a2 - a1))) (callD r_slices_medianAdjacentCmpFunc_api_Ratio (cw f_slices_medianAdjacentCmpFunc_api_Ratio [.sl 2 (List.map dGRatio.enc a0), I (w64 (a1 + w64 (w64 ((w64 (a2 - a1)).tdiv 4) * 1))), .loc 1002 1 0 0, .fn f_ratio_Compare []] [(1002, ⟨1, ty_i64_2, [dI_i64.enc 0], true⟩)]) fun (r0 : Int × Int) =>
    callD r_slices_medianAdjacentCmpFunc_api_Ratio (cw f_slices_medianAdjacentCmpFunc_api_Ratio [.sl 2 (List.map dGRatio.enc a0), I (w64 (a1 + w64 (w64 ((w64 (a2 - a1)).tdiv 4) * 2))), .loc 1002 1 0 0, .fn f_ratio_Compare []] [(1002, ⟨1, ty_i64_2, [dI_i64.enc r0.snd], true⟩)]) fun (r1 : Int × Int) =>
    callD r_slices_medianAdjacentCmpFunc_api_Ratio (cw f_slices_medianAdjacentCmpFunc_api_Ratio [.sl 2 (List.map dGRatio.enc a0), I (w64 (a1 + w64 (w64 ((w64 (a2 - a1)).tdiv 4) * 3))), .loc 1002 1 0 0, .fn f_ratio_Compare []] [(1002, ⟨1, ty_i64_2, [dI_i64.enc r1.snd], true⟩)]) fun (r2 : Int × Int) =>
    k_slices_choosePivotCmpFunc_api_Ratio_1011 a0 r0 r1 r2)
   (k_slices_choosePivotCmpFunc_api_Ratio_1011v1 a0 a1 a2))
  (some (.tup [I (w64 (a1 + w64 (w64 ((w64 (a2 - a1)).tdiv 4) * 2))), I 1], []))) = some y) : cw f_slices_choosePivotCmpFunc_api_Ratio [.sl 2 (List.map dGRatio.enc a0), I a1, I a2, .fn f_ratio_Compare []] [] = some y :=
  callw_tree R_slices_choosePivotCmpFunc_api_Ratio zT [11] (by kernel_rfl) (by kernel_rfl) (by kernel_rfl) (by kernel_rfl) (by kernel_rfl) h

end Go.Proofs.Ytapkemilafogjaa
