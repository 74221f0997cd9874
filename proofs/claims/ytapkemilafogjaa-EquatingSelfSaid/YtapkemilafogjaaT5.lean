/- What the functions compute, between two cut points: printed by a program, checked by the kernel. -/
import Derived.Test.YtapkemilafogjaaAnn
namespace Go.Proofs.Ytapkemilafogjaa
open Go.Ab
set_option maxRecDepth 100000
set_option linter.unusedVariables false

noncomputable def k_slices_reverseRangeCmpFunc_api_Ratio_1 (a0 : List GRatio) (x0 : List (List AV)) (x1 : Int) (x2 : Int) : Option (AV × Mem) := pt R_slices_reverseRangeCmpFunc_api_Ratio 1 ⟨[(0, .row 1000 2 0 ((List.map dGRatio.enc a0).length)), (8, I x1), (9, I x2)], [(1000, ⟨2, ty_api_Ratio, x0, false⟩)]⟩

theorem t_slices_reverseRangeCmpFunc_api_Ratio_1 (a0 : List GRatio) (x0 : List (List AV)) (x1 : Int) (x2 : Int) {y : AV × Mem} (h : (
  brn (decide (x1 < x2)) (chk ((0 : Int) ≤ x2) <|
   chk ((x2 : Int) < ((↑(List.map dGRatio.enc a0).length : Int))) <|
   elemD dGRatio x0 (0 + x2.toNat) fun (c3 : GRatio) =>
   chk ((0 : Int) ≤ x1) <|
   chk ((x1 : Int) < ((↑(List.map dGRatio.enc a0).length : Int))) <|
   elemD dGRatio x0 (0 + x1.toNat) fun (c4 : GRatio) =>
   chk ((0 : Int) ≤ x1) <|
   chk ((x1 : Int) < ((↑(List.map dGRatio.enc a0).length : Int))) <|
   elemD dGRatio x0 (0 + x1.toNat) fun (c5 : GRatio) =>
   chk ((0 : Int) ≤ x2) <|
   chk ((x2 : Int) < ((↑(List.map dGRatio.enc a0).length : Int))) <|
   elemD dGRatio (List.set x0 (0 + x1.toNat) (dGRatio.enc c3)) (0 + x2.toNat) fun (c6 : GRatio) =>
   k_slices_reverseRangeCmpFunc_api_Ratio_1 a0 (List.set (List.set x0 (0 + x1.toNat) (dGRatio.enc c3)) (0 + x2.toNat) (dGRatio.enc c4)) (w64 (x1 + 1)) (w64 (x2 - 1)))
  (some (.tup [], [(1000, ⟨2, ty_api_Ratio, x0, false⟩)]))) = some y) : k_slices_reverseRangeCmpFunc_api_Ratio_1 a0 x0 x1 x2 = some y :=
  pt_of zT [] (by kernel_rfl) h

theorem e_slices_reverseRangeCmpFunc_api_Ratio (a0 : List GRatio) (a1 : Int) (a2 : Int) {y : AV × Mem} (h : (
  k_slices_reverseRangeCmpFunc_api_Ratio_1 a0 (List.map dGRatio.enc a0) a1 (w64 (a2 - 1))) = some y) : cw f_slices_reverseRangeCmpFunc_api_Ratio [.row 1000 2 0 (List.length (List.map dGRatio.enc a0)), I a1, I a2, .fn f_ratio_Compare []] [(1000, ⟨2, ty_api_Ratio, List.map dGRatio.enc a0, false⟩)] = some y :=
  callw_tree R_slices_reverseRangeCmpFunc_api_Ratio zT [] (by kernel_rfl) (by kernel_rfl) (by kernel_rfl) (by kernel_rfl) (by kernel_rfl) h

noncomputable def k_slices_partialInsertionSortCmpFunc_api_Ratio_1 (a0 : List GRatio) (a1 : Int) (a2 : Int) (x0 : List (List AV)) (x1 : Int) (x2 : Int) : Option (AV × Mem) := pt R_slices_partialInsertionSortCmpFunc_api_Ratio 1 ⟨[(0, .row 1000 2 0 ((List.map dGRatio.enc a0).length)), (1, I a1), (2, I a2), (3, .fn f_ratio_Compare []), (9, I x1), (10, I x2)], [(1000, ⟨2, ty_api_Ratio, x0, false⟩)]⟩

noncomputable def k_slices_partialInsertionSortCmpFunc_api_Ratio_2 (a0 : List GRatio) (a1 : Int) (a2 : Int) (x0 : List (List AV)) (x1 : Int) (x2 : Int) : Option (AV × Mem) := pt R_slices_partialInsertionSortCmpFunc_api_Ratio 2 ⟨[(0, .row 1000 2 0 ((List.map dGRatio.enc a0).length)), (1, I a1), (2, I a2), (3, .fn f_ratio_Compare []), (9, I x1), (10, I x2), (16, B true)], [(1000, ⟨2, ty_api_Ratio, x0, false⟩)]⟩

noncomputable def k_slices_partialInsertionSortCmpFunc_api_Ratio_2v1 (a0 : List GRatio) (a1 : Int) (a2 : Int) (x0 : List (List AV)) (x2 : Int) (x6 : Int) : Option (AV × Mem) := pt R_slices_partialInsertionSortCmpFunc_api_Ratio 2 ⟨[(0, .row 1000 2 0 ((List.map dGRatio.enc a0).length)), (1, I a1), (2, I a2), (3, .fn f_ratio_Compare []), (9, I x6), (10, I x2)], [(1000, ⟨2, ty_api_Ratio, x0, false⟩)]⟩

noncomputable def k_slices_partialInsertionSortCmpFunc_api_Ratio_1007 (a0 : List GRatio) (a1 : Int) (a2 : Int) (x0 : List (List AV)) (x2 : Int) (x7 : Int) : Option (AV × Mem) := pt R_slices_partialInsertionSortCmpFunc_api_Ratio 1007 ⟨[(0, .row 1000 2 0 ((List.map dGRatio.enc a0).length)), (1, I a1), (2, I a2), (3, .fn f_ratio_Compare []), (9, I x7), (10, I x2), (36, B false)], [(1000, ⟨2, ty_api_Ratio, x0, false⟩)]⟩

noncomputable def k_slices_partialInsertionSortCmpFunc_api_Ratio_3 (a0 : List GRatio) (a1 : Int) (a2 : Int) (x2 : Int) (x7 : Int) (x15 : List (List AV)) (x16 : Int) : Option (AV × Mem) := pt R_slices_partialInsertionSortCmpFunc_api_Ratio 3 ⟨[(0, .row 1000 2 0 ((List.map dGRatio.enc a0).length)), (1, I a1), (2, I a2), (3, .fn f_ratio_Compare []), (9, I x7), (10, I x2), (11, I x16)], [(1000, ⟨2, ty_api_Ratio, x15, false⟩)]⟩

noncomputable def k_slices_partialInsertionSortCmpFunc_api_Ratio_4 (a0 : List GRatio) (a1 : Int) (a2 : Int) (x2 : Int) (x7 : Int) (x17 : List (List AV)) (x18 : Int) : Option (AV × Mem) := pt R_slices_partialInsertionSortCmpFunc_api_Ratio 4 ⟨[(0, .row 1000 2 0 ((List.map dGRatio.enc a0).length)), (1, I a1), (2, I a2), (3, .fn f_ratio_Compare []), (9, I x7), (10, I x2), (12, I x18)], [(1000, ⟨2, ty_api_Ratio, x17, false⟩)]⟩

theorem t_slices_partialInsertionSortCmpFunc_api_Ratio_1 (a0 : List GRatio) (a1 : Int) (a2 : Int) (x0 : List (List AV)) (x1 : Int) (x2 : Int) {y : AV × Mem} (h : (
  brn (decide (x2 < 5)) (k_slices_partialInsertionSortCmpFunc_api_Ratio_2 a0 a1 a2 x0 x1 x2)
  (some (B false, [(1000, ⟨2, ty_api_Ratio, x0, false⟩)]))) = some y) : k_slices_partialInsertionSortCmpFunc_api_Ratio_1 a0 a1 a2 x0 x1 x2 = some y :=
  pt_of zT [7] (by kernel_rfl) h

theorem t_slices_partialInsertionSortCmpFunc_api_Ratio_2 (a0 : List GRatio) (a1 : Int) (a2 : Int) (x0 : List (List AV)) (x1 : Int) (x2 : Int) {y : AV × Mem} (h : (
  brn (decide (x1 < a2)) (chk ((0 : Int) ≤ x1) <|
   chk ((x1 : Int) < ((↑(List.map dGRatio.enc a0).length : Int))) <|
   elemD dGRatio x0 (0 + x1.toNat) fun (c3 : GRatio) =>
   chk ((0 : Int) ≤ (w64 (x1 - 1))) <|
   chk ((w64 (x1 - 1) : Int) < ((↑(List.map dGRatio.enc a0).length : Int))) <|
   elemD dGRatio x0 (0 + (w64 (x1 - 1)).toNat) fun (c4 : GRatio) =>
   callD r_ratio_Compare (cw f_ratio_Compare [.agg (dGRatio.enc c3), .agg (dGRatio.enc c4)] []) fun (r5 : Int) =>
   brn (!decide (r5 < 0)) (k_slices_partialInsertionSortCmpFunc_api_Ratio_2v1 a0 a1 a2 x0 x2 (w64 (x1 + 1)))
   (k_slices_partialInsertionSortCmpFunc_api_Ratio_1007 a0 a1 a2 x0 x2 x1))
  (k_slices_partialInsertionSortCmpFunc_api_Ratio_1007 a0 a1 a2 x0 x2 x1)) = some y) : k_slices_partialInsertionSortCmpFunc_api_Ratio_2 a0 a1 a2 x0 x1 x2 = some y :=
  pt_of zT [7] (by kernel_rfl) h

theorem t_slices_partialInsertionSortCmpFunc_api_Ratio_2v1 (a0 : List GRatio) (a1 : Int) (a2 : Int) (x0 : List (List AV)) (x2 : Int) (x6 : Int) {y : AV × Mem} (h : (
  brn (decide (x6 < a2)) (chk ((0 : Int) ≤ x6) <|
   chk ((x6 : Int) < ((↑(List.map dGRatio.enc a0).length : Int))) <|
   elemD dGRatio x0 (0 + x6.toNat) fun (c8 : GRatio) =>
   chk ((0 : Int) ≤ (w64 (x6 - 1))) <|
   chk ((w64 (x6 - 1) : Int) < ((↑(List.map dGRatio.enc a0).length : Int))) <|
   elemD dGRatio x0 (0 + (w64 (x6 - 1)).toNat) fun (c9 : GRatio) =>
   callD r_ratio_Compare (cw f_ratio_Compare [.agg (dGRatio.enc c8), .agg (dGRatio.enc c9)] []) fun (r10 : Int) =>
   brn (!decide (r10 < 0)) (k_slices_partialInsertionSortCmpFunc_api_Ratio_2v1 a0 a1 a2 x0 x2 (w64 (x6 + 1)))
   (k_slices_partialInsertionSortCmpFunc_api_Ratio_1007 a0 a1 a2 x0 x2 x6))
  (k_slices_partialInsertionSortCmpFunc_api_Ratio_1007 a0 a1 a2 x0 x2 x6)) = some y) : k_slices_partialInsertionSortCmpFunc_api_Ratio_2v1 a0 a1 a2 x0 x2 x6 = some y :=
  pt_of zT [7] (by kernel_rfl) h

theorem t_slices_partialInsertionSortCmpFunc_api_Ratio_1007 (a0 : List GRatio) (a1 : Int) (a2 : Int) (x0 : List (List AV)) (x2 : Int) (x7 : Int) {y : AV × Mem} (h : (
  brn (x7 == a2) (some (B true, [(1000, ⟨2, ty_api_Ratio, x0, false⟩)]))
  (brn (decide (w64 (a2 - a1) < 50)) (some (B false, [(1000, ⟨2, ty_api_Ratio, x0, false⟩)]))
   (chk ((0 : Int) ≤ (w64 (x7 - 1))) <|
    chk ((w64 (x7 - 1) : Int) < ((↑(List.map dGRatio.enc a0).length : Int))) <|
    elemD dGRatio x0 (0 + (w64 (x7 - 1)).toNat) fun (c11 : GRatio) =>
    chk ((0 : Int) ≤ x7) <|
    chk ((x7 : Int) < ((↑(List.map dGRatio.enc a0).length : Int))) <|
    elemD dGRatio x0 (0 + x7.toNat) fun (c12 : GRatio) =>
    chk ((0 : Int) ≤ x7) <|
    chk ((x7 : Int) < ((↑(List.map dGRatio.enc a0).length : Int))) <|
    elemD dGRatio x0 (0 + x7.toNat) fun (c13 : GRatio) =>
    chk ((0 : Int) ≤ (w64 (x7 - 1))) <|
    chk ((w64 (x7 - 1) : Int) < ((↑(List.map dGRatio.enc a0).length : Int))) <|
    elemD dGRatio (List.set x0 (0 + x7.toNat) (dGRatio.enc c11)) (0 + (w64 (x7 - 1)).toNat) fun (c14 : GRatio) =>
    brn (decide (2 ≤ w64 (x7 - a1))) (k_slices_partialInsertionSortCmpFunc_api_Ratio_3 a0 a1 a2 x2 x7 (List.set (List.set x0 (0 + x7.toNat) (dGRatio.enc c11)) (0 + (w64 (x7 - 1)).toNat) (dGRatio.enc c12)) (w64 (x7 - 1)))
    (brn (decide (2 ≤ w64 (a2 - x7))) (k_slices_partialInsertionSortCmpFunc_api_Ratio_4 a0 a1 a2 x2 x7 (List.set (List.set x0 (0 + x7.toNat) (dGRatio.enc c11)) (0 + (w64 (x7 - 1)).toNat) (dGRatio.enc c12)) (w64 (x7 + 1)))
     (k_slices_partialInsertionSortCmpFunc_api_Ratio_1 a0 a1 a2 (List.set (List.set x0 (0 + x7.toNat) (dGRatio.enc c11)) (0 + (w64 (x7 - 1)).toNat) (dGRatio.enc c12)) x7 (w64 (x2 + 1))))))) = some y) : k_slices_partialInsertionSortCmpFunc_api_Ratio_1007 a0 a1 a2 x0 x2 x7 = some y :=
  pt_of zT [7] (by kernel_rfl) h

theorem t_slices_partialInsertionSortCmpFunc_api_Ratio_3 (a0 : List GRatio) (a1 : Int) (a2 : Int) (x2 : Int) (x7 : Int) (x15 : List (List AV)) (x16 : Int) {y : AV × Mem} (h : (
  brn (decide (1 ≤ x16)) (chk ((0 : Int) ≤ x16) <|
   chk ((x16 : Int) < ((↑(List.map dGRatio.enc a0).length : Int))) <|
   elemD dGRatio x15 (0 + x16.toNat) fun (c19 : GRatio) =>
   chk ((0 : Int) ≤ (w64 (x16 - 1))) <|
   chk ((w64 (x16 - 1) : Int) < ((↑(List.map dGRatio.enc a0).length : Int))) <|
   elemD dGRatio x15 (0 + (w64 (x16 - 1)).toNat) fun (c20 : GRatio) =>
   callD r_ratio_Compare (cw f_ratio_Compare [.agg (dGRatio.enc c19), .agg (dGRatio.enc c20)] []) fun (r21 : Int) =>
   brn (!decide (r21 < 0)) (brn (decide (2 ≤ w64 (a2 - x7))) (k_slices_partialInsertionSortCmpFunc_api_Ratio_4 a0 a1 a2 x2 x7 x15 (w64 (x7 + 1)))
    (k_slices_partialInsertionSortCmpFunc_api_Ratio_1 a0 a1 a2 x15 x7 (w64 (x2 + 1))))
   (chk ((0 : Int) ≤ (w64 (x16 - 1))) <|
    chk ((w64 (x16 - 1) : Int) < ((↑(List.map dGRatio.enc a0).length : Int))) <|
    elemD dGRatio x15 (0 + (w64 (x16 - 1)).toNat) fun (c22 : GRatio) =>
    chk ((0 : Int) ≤ x16) <|
    chk ((x16 : Int) < ((↑(List.map dGRatio.enc a0).length : Int))) <|
    elemD dGRatio x15 (0 + x16.toNat) fun (c23 : GRatio) =>
    chk ((0 : Int) ≤ x16) <|
    chk ((x16 : Int) < ((↑(List.map dGRatio.enc a0).length : Int))) <|
    elemD dGRatio x15 (0 + x16.toNat) fun (c24 : GRatio) =>
    chk ((0 : Int) ≤ (w64 (x16 - 1))) <|
    chk ((w64 (x16 - 1) : Int) < ((↑(List.map dGRatio.enc a0).length : Int))) <|
    elemD dGRatio (List.set x15 (0 + x16.toNat) (dGRatio.enc c22)) (0 + (w64 (x16 - 1)).toNat) fun (c25 : GRatio) =>
    k_slices_partialInsertionSortCmpFunc_api_Ratio_3 a0 a1 a2 x2 x7 (List.set (List.set x15 (0 + x16.toNat) (dGRatio.enc c22)) (0 + (w64 (x16 - 1)).toNat) (dGRatio.enc c23)) (w64 (x16 - 1))))
  (brn (decide (2 ≤ w64 (a2 - x7))) (k_slices_partialInsertionSortCmpFunc_api_Ratio_4 a0 a1 a2 x2 x7 x15 (w64 (x7 + 1)))
   (k_slices_partialInsertionSortCmpFunc_api_Ratio_1 a0 a1 a2 x15 x7 (w64 (x2 + 1))))) = some y) : k_slices_partialInsertionSortCmpFunc_api_Ratio_3 a0 a1 a2 x2 x7 x15 x16 = some y :=
  pt_of zT [7] (by kernel_rfl) h

theorem t_slices_partialInsertionSortCmpFunc_api_Ratio_4 (a0 : List GRatio) (a1 : Int) (a2 : Int) (x2 : Int) (x7 : Int) (x17 : List (List AV)) (x18 : Int) {y : AV × Mem} (h : (
  brn (decide (x18 < a2)) (chk ((0 : Int) ≤ x18) <|
   chk ((x18 : Int) < ((↑(List.map dGRatio.enc a0).length : Int))) <|
   elemD dGRatio x17 (0 + x18.toNat) fun (c26 : GRatio) =>
   chk ((0 : Int) ≤ (w64 (x18 - 1))) <|
   chk ((w64 (x18 - 1) : Int) < ((↑(List.map dGRatio.enc a0).length : Int))) <|
   elemD dGRatio x17 (0 + (w64 (x18 - 1)).toNat) fun (c27 : GRatio) =>
   callD r_ratio_Compare (cw f_ratio_Compare [.agg (dGRatio.enc c26), .agg (dGRatio.enc c27)] []) fun (r28 : Int) =>
   brn (!decide (r28 < 0)) (k_slices_partialInsertionSortCmpFunc_api_Ratio_1 a0 a1 a2 x17 x7 (w64 (x2 + 1)))
   (chk ((0 : Int) ≤ (w64 (x18 - 1))) <|
    chk ((w64 (x18 - 1) : Int) < ((↑(List.map dGRatio.enc a0).length : Int))) <|
    elemD dGRatio x17 (0 + (w64 (x18 - 1)).toNat) fun (c29 : GRatio) =>
    chk ((0 : Int) ≤ x18) <|
    chk ((x18 : Int) < ((↑(List.map dGRatio.enc a0).length : Int))) <|
    elemD dGRatio x17 (0 + x18.toNat) fun (c30 : GRatio) =>
    chk ((0 : Int) ≤ x18) <|
    chk ((x18 : Int) < ((↑(List.map dGRatio.enc a0).length : Int))) <|
    elemD dGRatio x17 (0 + x18.toNat) fun (c31 : GRatio) =>
    chk ((0 : Int) ≤ (w64 (x18 - 1))) <|
    chk ((w64 (x18 - 1) : Int) < ((↑(List.map dGRatio.enc a0).length : Int))) <|
    elemD dGRatio (List.set x17 (0 + x18.toNat) (dGRatio.enc c29)) (0 + (w64 (x18 - 1)).toNat) fun (c32 : GRatio) =>
    k_slices_partialInsertionSortCmpFunc_api_Ratio_4 a0 a1 a2 x2 x7 (List.set (List.set x17 (0 + x18.toNat) (dGRatio.enc c29)) (0 + (w64 (x18 - 1)).toNat) (dGRatio.enc c30)) (w64 (x18 + 1))))
  (k_slices_partialInsertionSortCmpFunc_api_Ratio_1 a0 a1 a2 x17 x7 (w64 (x2 + 1)))) = some y) : k_slices_partialInsertionSortCmpFunc_api_Ratio_4 a0 a1 a2 x2 x7 x17 x18 = some y :=
  pt_of zT [7] (by kernel_rfl) h

theorem e_slices_partialInsertionSortCmpFunc_api_Ratio (a0 : List GRatio) (a1 : Int) (a2 : Int) {y : AV × Mem} (h : (
  k_slices_partialInsertionSortCmpFunc_api_Ratio_1 a0 a1 a2 (List.map dGRatio.enc a0) (w64 (a1 + 1)) 0) = some y) : cw f_slices_partialInsertionSortCmpFunc_api_Ratio [.row 1000 2 0 (List.length (List.map dGRatio.enc a0)), I a1, I a2, .fn f_ratio_Compare []] [(1000, ⟨2, ty_api_Ratio, List.map dGRatio.enc a0, false⟩)] = some y :=
  callw_tree R_slices_partialInsertionSortCmpFunc_api_Ratio zT [7] (by kernel_rfl) (by kernel_rfl) (by kernel_rfl) (by kernel_rfl) (by kernel_rfl) h

noncomputable def k_slices_partitionEqualCmpFunc_api_Ratio_1 (a0 : List GRatio) (a1 : Int) (x4 : List (List AV)) (x5 : Int) (x6 : Int) : Option (AV × Mem) := pt R_slices_partitionEqualCmpFunc_api_Ratio 1 ⟨[(0, .row 1000 2 0 ((List.map dGRatio.enc a0).length)), (1, I a1), (4, .fn f_ratio_Compare []), (11, I x5), (12, I x6)], [(1000, ⟨2, ty_api_Ratio, x4, false⟩)]⟩

noncomputable def k_slices_partitionEqualCmpFunc_api_Ratio_2 (a0 : List GRatio) (a1 : Int) (x4 : List (List AV)) (x6 : Int) (x7 : Int) : Option (AV × Mem) := pt R_slices_partitionEqualCmpFunc_api_Ratio 2 ⟨[(0, .row 1000 2 0 ((List.map dGRatio.enc a0).length)), (1, I a1), (4, .fn f_ratio_Compare []), (11, I x7), (12, I x6)], [(1000, ⟨2, ty_api_Ratio, x4, false⟩)]⟩

noncomputable def k_slices_partitionEqualCmpFunc_api_Ratio_3 (a0 : List GRatio) (a1 : Int) (x4 : List (List AV)) (x6 : Int) (x7 : Int) : Option (AV × Mem) := pt R_slices_partitionEqualCmpFunc_api_Ratio 3 ⟨[(0, .row 1000 2 0 ((List.map dGRatio.enc a0).length)), (1, I a1), (4, .fn f_ratio_Compare []), (11, I x7), (12, I x6), (47, B false)], [(1000, ⟨2, ty_api_Ratio, x4, false⟩)]⟩

noncomputable def k_slices_partitionEqualCmpFunc_api_Ratio_3v1 (a0 : List GRatio) (a1 : Int) (x4 : List (List AV)) (x7 : Int) (x14 : Int) : Option (AV × Mem) := pt R_slices_partitionEqualCmpFunc_api_Ratio 3 ⟨[(0, .row 1000 2 0 ((List.map dGRatio.enc a0).length)), (1, I a1), (4, .fn f_ratio_Compare []), (11, I x7), (12, I x14)], [(1000, ⟨2, ty_api_Ratio, x4, false⟩)]⟩

noncomputable def k_slices_partitionEqualCmpFunc_api_Ratio_1007 (a0 : List GRatio) (a1 : Int) (x4 : List (List AV)) (x7 : Int) (x15 : Int) : Option (AV × Mem) := pt R_slices_partitionEqualCmpFunc_api_Ratio 1007 ⟨[(0, .row 1000 2 0 ((List.map dGRatio.enc a0).length)), (1, I a1), (4, .fn f_ratio_Compare []), (11, I x7), (12, I x15), (65, B false)], [(1000, ⟨2, ty_api_Ratio, x4, false⟩)]⟩

theorem t_slices_partitionEqualCmpFunc_api_Ratio_1 (a0 : List GRatio) (a1 : Int) (x4 : List (List AV)) (x5 : Int) (x6 : Int) {y : AV × Mem} (h : (
  k_slices_partitionEqualCmpFunc_api_Ratio_2 a0 a1 x4 x6 x5) = some y) : k_slices_partitionEqualCmpFunc_api_Ratio_1 a0 a1 x4 x5 x6 = some y :=
  pt_of zT [7] (by kernel_rfl) h

theorem t_slices_partitionEqualCmpFunc_api_Ratio_2 (a0 : List GRatio) (a1 : Int) (x4 : List (List AV)) (x6 : Int) (x7 : Int) {y : AV × Mem} (h : (
  brn (decide (x7 ≤ x6)) (chk ((0 : Int) ≤ a1) <|
   chk ((a1 : Int) < ((↑(List.map dGRatio.enc a0).length : Int))) <|
   elemD dGRatio x4 (0 + a1.toNat) fun (c8 : GRatio) =>
   chk ((0 : Int) ≤ x7) <|
   chk ((x7 : Int) < ((↑(List.map dGRatio.enc a0).length : Int))) <|
   elemD dGRatio x4 (0 + x7.toNat) fun (c9 : GRatio) =>
   callD r_ratio_Compare (cw f_ratio_Compare [.agg (dGRatio.enc c8), .agg (dGRatio.enc c9)] []) fun (r10 : Int) =>
   brn (!decide (r10 < 0)) (k_slices_partitionEqualCmpFunc_api_Ratio_2 a0 a1 x4 x6 (w64 (x7 + 1)))
   (k_slices_partitionEqualCmpFunc_api_Ratio_3 a0 a1 x4 x6 x7))
  (k_slices_partitionEqualCmpFunc_api_Ratio_3 a0 a1 x4 x6 x7)) = some y) : k_slices_partitionEqualCmpFunc_api_Ratio_2 a0 a1 x4 x6 x7 = some y :=
  pt_of zT [7] (by kernel_rfl) h

theorem t_slices_partitionEqualCmpFunc_api_Ratio_3 (a0 : List GRatio) (a1 : Int) (x4 : List (List AV)) (x6 : Int) (x7 : Int) {y : AV × Mem} (h : (
  brn (decide (x7 ≤ x6)) (chk ((0 : Int) ≤ a1) <|
   chk ((a1 : Int) < ((↑(List.map dGRatio.enc a0).length : Int))) <|
   elemD dGRatio x4 (0 + a1.toNat) fun (c11 : GRatio) =>
   chk ((0 : Int) ≤ x6) <|
   chk ((x6 : Int) < ((↑(List.map dGRatio.enc a0).length : Int))) <|
   elemD dGRatio x4 (0 + x6.toNat) fun (c12 : GRatio) =>
   callD r_ratio_Compare (cw f_ratio_Compare [.agg (dGRatio.enc c11), .agg (dGRatio.enc c12)] []) fun (r13 : Int) =>
   brn (decide (r13 < 0)) (k_slices_partitionEqualCmpFunc_api_Ratio_3v1 a0 a1 x4 x7 (w64 (x6 - 1)))
   (k_slices_partitionEqualCmpFunc_api_Ratio_1007 a0 a1 x4 x7 x6))
  (k_slices_partitionEqualCmpFunc_api_Ratio_1007 a0 a1 x4 x7 x6)) = some y) : k_slices_partitionEqualCmpFunc_api_Ratio_3 a0 a1 x4 x6 x7 = some y :=
  pt_of zT [7] (by kernel_rfl) h

theorem t_slices_partitionEqualCmpFunc_api_Ratio_3v1 (a0 : List GRatio) (a1 : Int) (x4 : List (List AV)) (x7 : Int) (x14 : Int) {y : AV × Mem} (h : (
  brn (decide (x7 ≤ x14)) (chk ((0 : Int) ≤ a1) <|
   chk ((a1 : Int) < ((↑(List.map dGRatio.enc a0).length : Int))) <|
   elemD dGRatio x4 (0 + a1.toNat) fun (c16 : GRatio) =>
   chk ((0 : Int) ≤ x14) <|
   chk ((x14 : Int) < ((↑(List.map dGRatio.enc a0).length : Int))) <|
   elemD dGRatio x4 (0 + x14.toNat) fun (c17 : GRatio) =>
   callD r_ratio_Compare (cw f_ratio_Compare [.agg (dGRatio.enc c16), .agg (dGRatio.enc c17)] []) fun (r18 : Int) =>
   brn (decide (r18 < 0)) (k_slices_partitionEqualCmpFunc_api_Ratio_3v1 a0 a1 x4 x7 (w64 (x14 - 1)))
   (k_slices_partitionEqualCmpFunc_api_Ratio_1007 a0 a1 x4 x7 x14))
  (k_slices_partitionEqualCmpFunc_api_Ratio_1007 a0 a1 x4 x7 x14)) = some y) : k_slices_partitionEqualCmpFunc_api_Ratio_3v1 a0 a1 x4 x7 x14 = some y :=
  pt_of zT [7] (by kernel_rfl) h

theorem t_slices_partitionEqualCmpFunc_api_Ratio_1007 (a0 : List GRatio) (a1 : Int) (x4 : List (List AV)) (x7 : Int) (x15 : Int) {y : AV × Mem} (h : (
  brn (decide (x15 < x7)) (some (I x7, [(1000, ⟨2, ty_api_Ratio, x4, false⟩)]))
  (chk ((0 : Int) ≤ x15) <|
   chk ((x15 : Int) < ((↑(List.map dGRatio.enc a0).length : Int))) <|
   elemD dGRatio x4 (0 + x15.toNat) fun (c19 : GRatio) =>
   chk ((0 : Int) ≤ x7) <|
   chk ((x7 : Int) < ((↑(List.map dGRatio.enc a0).length : Int))) <|
   elemD dGRatio x4 (0 + x7.toNat) fun (c20 : GRatio) =>
   chk ((0 : Int) ≤ x7) <|
   chk ((x7 : Int) < ((↑(List.map dGRatio.enc a0).length : Int))) <|
   elemD dGRatio x4 (0 + x7.toNat) fun (c21 : GRatio) =>
   chk ((0 : Int) ≤ x15) <|
   chk ((x15 : Int) < ((↑(List.map dGRatio.enc a0).length : Int))) <|
   elemD dGRatio (List.set x4 (0 + x7.toNat) (dGRatio.enc c19)) (0 + x15.toNat) fun (c22 : GRatio) =>
   k_slices_partitionEqualCmpFunc_api_Ratio_1 a0 a1 (List.set (List.set x4 (0 + x7.toNat) (dGRatio.enc c19)) (0 + x15.toNat) (dGRatio.enc c20)) (w64 (x7 + 1)) (w64 (x15 - 1)))) = some y) : k_slices_partitionEqualCmpFunc_api_Ratio_1007 a0 a1 x4 x7 x15 = some y :=
  pt_of zT [7] (by kernel_rfl) h

theorem e_slices_partitionEqualCmpFunc_api_Ratio (a0 : List GRatio) (a1 : Int) (a2 : Int) (a3 : Int) {y : AV × Mem} (h : (
  chk ((0 : Int) ≤ a3) <|
  chk ((a3 : Int) < ((↑(List.map dGRatio.enc a0).length : Int))) <|
  elemD dGRatio (List.map dGRatio.enc a0) (0 + a3.toNat) fun (c0 : GRatio) =>
  chk ((0 : Int) ≤ a1) <|
  chk ((a1 : Int) < ((↑(List.map dGRatio.enc a0).length : Int))) <|
  elemD dGRatio (List.map dGRatio.enc a0) (0 + a1.toNat) fun (c1 : GRatio) =>
  chk ((0 : Int) ≤ a1) <|
  chk ((a1 : Int) < ((↑(List.map dGRatio.enc a0).length : Int))) <|
  elemD dGRatio (List.map dGRatio.enc a0) (0 + a1.toNat) fun (c2 : GRatio) =>
  chk ((0 : Int) ≤ a3) <|
  chk ((a3 : Int) < ((↑(List.map dGRatio.enc a0).length : Int))) <|
  elemD dGRatio (List.set (List.map dGRatio.enc a0) (0 + a1.toNat) (dGRatio.enc c0)) (0 + a3.toNat) fun (c3 : GRatio) =>
  k_slices_partitionEqualCmpFunc_api_Ratio_1 a0 a1 (List.set (List.set (List.map dGRatio.enc a0) (0 + a1.toNat) (dGRatio.enc c0)) (0 + a3.toNat) (dGRatio.enc c1)) (w64 (a1 + 1)) (w64 (a2 - 1))) = some y) : cw f_slices_partitionEqualCmpFunc_api_Ratio [.row 1000 2 0 (List.length (List.map dGRatio.enc a0)), I a1, I a2, I a3, .fn f_ratio_Compare []] [(1000, ⟨2, ty_api_Ratio, List.map dGRatio.enc a0, false⟩)] = some y :=
  callw_tree R_slices_partitionEqualCmpFunc_api_Ratio zT [7] (by kernel_rfl) (by kernel_rfl) (by kernel_rfl) (by kernel_rfl) (by kernel_rfl) h

noncomputable def k_slices_partitionCmpFunc_api_Ratio_1 (a0 : List GRatio) (a1 : Int) (a2 : Int) (a3 : Int) (c0 : GRatio) (c1 : GRatio) (c2 : GRatio) (c3 : GRatio) (x4 : Int) : Option (AV × Mem) := pt R_slices_partitionCmpFunc_api_Ratio 1 ⟨[(0, .row 1000 2 0 ((List.map dGRatio.enc a0).length)), (1, I a1), (4, .fn f_ratio_Compare []), (12, I x4), (13, I (w64 (a2 - 1)))], [(1000, ⟨2, ty_api_Ratio, List.set (List.set (List.map dGRatio.enc a0) (0 + a1.toNat) (dGRatio.enc c0)) (0 + a3.toNat) (dGRatio.enc c1), false⟩)]⟩

noncomputable def k_slices_partitionCmpFunc_api_Ratio_2 (a0 : List GRatio) (a1 : Int) (a2 : Int) (a3 : Int) (c0 : GRatio) (c1 : GRatio) (c2 : GRatio) (c3 : GRatio) (x4 : Int) : Option (AV × Mem) := pt R_slices_partitionCmpFunc_api_Ratio 2 ⟨[(0, .row 1000 2 0 ((List.map dGRatio.enc a0).length)), (1, I a1), (4, .fn f_ratio_Compare []), (12, I x4), (13, I (w64 (a2 - 1))), (47, B false)], [(1000, ⟨2, ty_api_Ratio, List.set (List.set (List.map dGRatio.enc a0) (0 + a1.toNat) (dGRatio.enc c0)) (0 + a3.toNat) (dGRatio.enc c1), false⟩)]⟩

noncomputable def k_slices_partitionCmpFunc_api_Ratio_2v1 (a0 : List GRatio) (a1 : Int) (a2 : Int) (a3 : Int) (c0 : GRatio) (c1 : GRatio) (c2 : GRatio) (c3 : GRatio) (x4 : Int) (x11 : Int) : Option (AV × Mem) := pt R_slices_partitionCmpFunc_api_Ratio 2 ⟨[(0, .row 1000 2 0 ((List.map dGRatio.enc a0).length)), (1, I a1), (4, .fn f_ratio_Compare []), (12, I x4), (13, I x11)], [(1000, ⟨2, ty_api_Ratio, List.set (List.set (List.map dGRatio.enc a0) (0 + a1.toNat) (dGRatio.enc c0)) (0 + a3.toNat) (dGRatio.enc c1), false⟩)]⟩

noncomputable def k_slices_partitionCmpFunc_api_Ratio_1007 (a0 : List GRatio) (a1 : Int) (a2 : Int) (a3 : Int) (c0 : GRatio) (c1 : GRatio) (c2 : GRatio) (c3 : GRatio) (x4 : Int) (x12 : Int) : Option (AV × Mem) := pt R_slices_partitionCmpFunc_api_Ratio 1007 ⟨[(0, .row 1000 2 0 ((List.map dGRatio.enc a0).length)), (1, I a1), (4, .fn f_ratio_Compare []), (12, I x4), (13, I x12), (66, B false)], [(1000, ⟨2, ty_api_Ratio, List.set (List.set (List.map dGRatio.enc a0) (0 + a1.toNat) (dGRatio.enc c0)) (0 + a3.toNat) (dGRatio.enc c1), false⟩)]⟩

noncomputable def k_slices_partitionCmpFunc_api_Ratio_3 (a0 : List GRatio) (a1 : Int) (x24 : List (List AV)) (x25 : Int) (x26 : Int) : Option (AV × Mem) := pt R_slices_partitionCmpFunc_api_Ratio 3 ⟨[(0, .row 1000 2 0 ((List.map dGRatio.enc a0).length)), (1, I a1), (4, .fn f_ratio_Compare []), (12, I x25), (13, I x26)], [(1000, ⟨2, ty_api_Ratio, x24, false⟩)]⟩

noncomputable def k_slices_partitionCmpFunc_api_Ratio_4 (a0 : List GRatio) (a1 : Int) (x24 : List (List AV)) (x26 : Int) (x27 : Int) : Option (AV × Mem) := pt R_slices_partitionCmpFunc_api_Ratio 4 ⟨[(0, .row 1000 2 0 ((List.map dGRatio.enc a0).length)), (1, I a1), (4, .fn f_ratio_Compare []), (12, I x27), (13, I x26)], [(1000, ⟨2, ty_api_Ratio, x24, false⟩)]⟩

noncomputable def k_slices_partitionCmpFunc_api_Ratio_5 (a0 : List GRatio) (a1 : Int) (x24 : List (List AV)) (x26 : Int) (x27 : Int) : Option (AV × Mem) := pt R_slices_partitionCmpFunc_api_Ratio 5 ⟨[(0, .row 1000 2 0 ((List.map dGRatio.enc a0).length)), (1, I a1), (4, .fn f_ratio_Compare []), (12, I x27), (13, I x26), (120, B false)], [(1000, ⟨2, ty_api_Ratio, x24, false⟩)]⟩

noncomputable def k_slices_partitionCmpFunc_api_Ratio_5v1 (a0 : List GRatio) (a1 : Int) (x24 : List (List AV)) (x27 : Int) (x34 : Int) : Option (AV × Mem) := pt R_slices_partitionCmpFunc_api_Ratio 5 ⟨[(0, .row 1000 2 0 ((List.map dGRatio.enc a0).length)), (1, I a1), (4, .fn f_ratio_Compare []), (12, I x27), (13, I x34)], [(1000, ⟨2, ty_api_Ratio, x24, false⟩)]⟩

noncomputable def k_slices_partitionCmpFunc_api_Ratio_1017 (a0 : List GRatio) (a1 : Int) (x24 : List (List AV)) (x27 : Int) (x35 : Int) : Option (AV × Mem) := pt R_slices_partitionCmpFunc_api_Ratio 1017 ⟨[(0, .row 1000 2 0 ((List.map dGRatio.enc a0).length)), (1, I a1), (4, .fn f_ratio_Compare []), (12, I x27), (13, I x35), (139, B false)], [(1000, ⟨2, ty_api_Ratio, x24, false⟩)]⟩

theorem t_slices_partitionCmpFunc_api_Ratio_1 (a0 : List GRatio) (a1 : Int) (a2 : Int) (a3 : Int) (c0 : GRatio) (c1 : GRatio) (c2 : GRatio) (c3 : GRatio) (x4 : Int) {y : AV × Mem} (h : (
  brn (decide (x4 ≤ w64 (a2 - 1))) (chk ((0 : Int) ≤ x4) <|
   chk ((x4 : Int) < ((↑(List.map dGRatio.enc a0).length : Int))) <|
   elemD dGRatio (List.set (List.set (List.map dGRatio.enc a0) (0 + a1.toNat) (dGRatio.enc c0)) (0 + a3.toNat) (dGRatio.enc c1)) (0 + x4.toNat) fun (c5 : GRatio) =>
   chk ((0 : Int) ≤ a1) <|
   chk ((a1 : Int) < ((↑(List.map dGRatio.enc a0).length : Int))) <|
   elemD dGRatio (List.set (List.set (List.map dGRatio.enc a0) (0 + a1.toNat) (dGRatio.enc c0)) (0 + a3.toNat) (dGRatio.enc c1)) (0 + a1.toNat) fun (c6 : GRatio) =>
   callD r_ratio_Compare (cw f_ratio_Compare [.agg (dGRatio.enc c5), .agg (dGRatio.enc c6)] []) fun (r7 : Int) =>
   brn (decide (r7 < 0)) (k_slices_partitionCmpFunc_api_Ratio_1 a0 a1 a2 a3 c0 c1 c2 c3 (w64 (x4 + 1)))
   (k_slices_partitionCmpFunc_api_Ratio_2 a0 a1 a2 a3 c0 c1 c2 c3 x4))
  (k_slices_partitionCmpFunc_api_Ratio_2 a0 a1 a2 a3 c0 c1 c2 c3 x4)) = some y) : k_slices_partitionCmpFunc_api_Ratio_1 a0 a1 a2 a3 c0 c1 c2 c3 x4 = some y :=
  pt_of zT [17, 7] (by kernel_rfl) h

theorem t_slices_partitionCmpFunc_api_Ratio_2 (a0 : List GRatio) (a1 : Int) (a2 : Int) (a3 : Int) (c0 : GRatio) (c1 : GRatio) (c2 : GRatio) (c3 : GRatio) (x4 : Int) {y : AV × Mem} (h : (
  brn (decide (x4 ≤ w64 (a2 - 1))) (chk ((0 : Int) ≤ (w64 (a2 - 1))) <|
   chk ((w64 (a2 - 1) : Int) < ((↑(List.map dGRatio.enc a0).length : Int))) <|
   elemD dGRatio (List.set (List.set (List.map dGRatio.enc a0) (0 + a1.toNat) (dGRatio.enc c0)) (0 + a3.toNat) (dGRatio.enc c1)) (0 + (w64 (a2 - 1)).toNat) fun (c8 : GRatio) =>
   chk ((0 : Int) ≤ a1) <|
   chk ((a1 : Int) < ((↑(List.map dGRatio.enc a0).length : Int))) <|
   elemD dGRatio (List.set (List.set (List.map dGRatio.enc a0) (0 + a1.toNat) (dGRatio.enc c0)) (0 + a3.toNat) (dGRatio.enc c1)) (0 + a1.toNat) fun (c9 : GRatio) =>
   callD r_ratio_Compare (cw f_ratio_Compare [.agg (dGRatio.enc c8), .agg (dGRatio.enc c9)] []) fun (r10 : Int) =>
   brn (!decide (r10 < 0)) (k_slices_partitionCmpFunc_api_Ratio_2v1 a0 a1 a2 a3 c0 c1 c2 c3 x4 (w64 (w64 (a2 - 1) - 1)))
   (k_slices_partitionCmpFunc_api_Ratio_1007 a0 a1 a2 a3 c0 c1 c2 c3 x4 (w64 (a2 - 1))))
  (k_slices_partitionCmpFunc_api_Ratio_1007 a0 a1 a2 a3 c0 c1 c2 c3 x4 (w64 (a2 - 1)))) = some y) : k_slices_partitionCmpFunc_api_Ratio_2 a0 a1 a2 a3 c0 c1 c2 c3 x4 = some y :=
  pt_of zT [17, 7] (by kernel_rfl) h

theorem t_slices_partitionCmpFunc_api_Ratio_2v1 (a0 : List GRatio) (a1 : Int) (a2 : Int) (a3 : Int) (c0 : GRatio) (c1 : GRatio) (c2 : GRatio) (c3 : GRatio) (x4 : Int) (x11 : Int) {y : AV × Mem} (h : (
  brn (decide (x4 ≤ x11)) (chk ((0 : Int) ≤ x11) <|
   chk ((x11 : Int) < ((↑(List.map dGRatio.enc a0).length : Int))) <|
   elemD dGRatio (List.set (List.set (List.map dGRatio.enc a0) (0 + a1.toNat) (dGRatio.enc c0)) (0 + a3.toNat) (dGRatio.enc c1)) (0 + x11.toNat) fun (c13 : GRatio) =>
   chk ((0 : Int) ≤ a1) <|
   chk ((a1 : Int) < ((↑(List.map dGRatio.enc a0).length : Int))) <|
   elemD dGRatio (List.set (List.set (List.map dGRatio.enc a0) (0 + a1.toNat) (dGRatio.enc c0)) (0 + a3.toNat) (dGRatio.enc c1)) (0 + a1.toNat) fun (c14 : GRatio) =>
   callD r_ratio_Compare (cw f_ratio_Compare [.agg (dGRatio.enc c13), .agg (dGRatio.enc c14)] []) fun (r15 : Int) =>
   brn (!decide (r15 < 0)) (k_slices_partitionCmpFunc_api_Ratio_2v1 a0 a1 a2 a3 c0 c1 c2 c3 x4 (w64 (x11 - 1)))
   (k_slices_partitionCmpFunc_api_Ratio_1007 a0 a1 a2 a3 c0 c1 c2 c3 x4 x11))
  (k_slices_partitionCmpFunc_api_Ratio_1007 a0 a1 a2 a3 c0 c1 c2 c3 x4 x11)) = some y) : k_slices_partitionCmpFunc_api_Ratio_2v1 a0 a1 a2 a3 c0 c1 c2 c3 x4 x11 = some y :=
  pt_of zT [17, 7] (by kernel_rfl) h

theorem t_slices_partitionCmpFunc_api_Ratio_1007 (a0 : List GRatio) (a1 : Int) (a2 : Int) (a3 : Int) (c0 : GRatio) (c1 : GRatio) (c2 : GRatio) (c3 : GRatio) (x4 : Int) (x12 : Int) {y : AV × Mem} (h : (
  brn (decide (x12 < x4)) (chk ((0 : Int) ≤ a1) <|
   chk ((a1 : Int) < ((↑(List.map dGRatio.enc a0).length : Int))) <|
   elemD dGRatio (List.set (List.set (List.map dGRatio.enc a0) (0 + a1.toNat) (dGRatio.enc c0)) (0 + a3.toNat) (dGRatio.enc c1)) (0 + a1.toNat) fun (c16 : GRatio) =>
   chk ((0 : Int) ≤ x12) <|
   chk ((x12 : Int) < ((↑(List.map dGRatio.enc a0).length : Int))) <|
   elemD dGRatio (List.set (List.set (List.map dGRatio.enc a0) (0 + a1.toNat) (dGRatio.enc c0)) (0 + a3.toNat) (dGRatio.enc c1)) (0 + x12.toNat) fun (c17 : GRatio) =>
   chk ((0 : Int) ≤ x12) <|
   chk ((x12 : Int) < ((↑(List.map dGRatio.enc a0).length : Int))) <|
   elemD dGRatio (List.set (List.set (List.map dGRatio.enc a0) (0 + a1.toNat) (dGRatio.enc c0)) (0 + a3.toNat) (dGRatio.enc c1)) (0 + x12.toNat) fun (c18 : GRatio) =>
   chk ((0 : Int) ≤ a1) <|
   chk ((a1 : Int) < ((↑(List.map dGRatio.enc a0).length : Int))) <|
   elemD dGRatio (List.set (List.set (List.set (List.map dGRatio.enc a0) (0 + a1.toNat) (dGRatio.enc c0)) (0 + a3.toNat) (dGRatio.enc c1)) (0 + x12.toNat) (dGRatio.enc c16)) (0 + a1.toNat) fun (c19 : GRatio) =>
   some (.tup [I x12, B true], [(1000, ⟨2, ty_api_Ratio, List.set (List.set (List.set (List.set (List.map dGRatio.enc a0) (0 + a1.toNat) (dGRatio.enc c0)) (0 + a3.toNat) (dGRatio.enc c1)) (0 + x12.toNat) (dGRatio.enc c16)) (0 + a1.toNat) (dGRatio.enc c17), false⟩)]))
  (chk ((0 : Int) ≤ x12) <|
   chk ((x12 : Int) < ((↑(List.map dGRatio.enc a0).length : Int))) <|
   elemD dGRatio (List.set (List.set (List.map dGRatio.enc a0) (0 + a1.toNat) (dGRatio.enc c0)) (0 + a3.toNat) (dGRatio.enc c1)) (0 + x12.toNat) fun (c20 : GRatio) =>
   chk ((0 : Int) ≤ x4) <|
   chk ((x4 : Int) < ((↑(List.map dGRatio.enc a0).length : Int))) <|
   elemD dGRatio (List.set (List.set (List.map dGRatio.enc a0) (0 + a1.toNat) (dGRatio.enc c0)) (0 + a3.toNat) (dGRatio.enc c1)) (0 + x4.toNat) fun (c21 : GRatio) =>
   chk ((0 : Int) ≤ x4) <|
   chk ((x4 : Int) < ((↑(List.map dGRatio.enc a0).length : Int))) <|
   elemD dGRatio (List.set (List.set (List.map dGRatio.enc a0) (0 + a1.toNat) (dGRatio.enc c0)) (0 + a3.toNat) (dGRatio.enc c1)) (0 + x4.toNat) fun (c22 : GRatio) =>
   chk ((0 : Int) ≤ x12) <|
   chk ((x12 : Int) < ((↑(List.map dGRatio.enc a0).length : Int))) <|
   elemD dGRatio (List.set (List.set (List.set (List.map dGRatio.enc a0) (0 + a1.toNat) (dGRatio.enc c0)) (0 + a3.toNat) (dGRatio.enc c1)) (0 + x4.toNat) (dGRatio.enc c20)) (0 + x12.toNat) fun (c23 : GRatio) =>
   k_slices_partitionCmpFunc_api_Ratio_3 a0 a1 (List.set (List.set (List.set (List.set (List.map dGRatio.enc a0) (0 + a1.toNat) (dGRatio.enc c0)) (0 + a3.toNat) (dGRatio.enc c1)) (0 + x4.toNat) (dGRatio.enc c20)) (0 + x12.toNat) (dGRatio.enc c21)) (w64 (x4 + 1)) (w64 (x12 - 1)))) = some y) : k_slices_partitionCmpFunc_api_Ratio_1007 a0 a1 a2 a3 c0 c1 c2 c3 x4 x12 = some y :=
  pt_of zT [17, 7] (by kernel_rfl) h

theorem t_slices_partitionCmpFunc_api_Ratio_3 (a0 : List GRatio) (a1 : Int) (x24 : List (List AV)) (x25 : Int) (x26 : Int) {y : AV × Mem} (h : (
  k_slices_partitionCmpFunc_api_Ratio_4 a0 a1 x24 x26 x25) = some y) : k_slices_partitionCmpFunc_api_Ratio_3 a0 a1 x24 x25 x26 = some y :=
  pt_of zT [17, 7] (by kernel_rfl) h

theorem t_slices_partitionCmpFunc_api_Ratio_4 (a0 : List GRatio) (a1 : Int) (x24 : List (List AV)) (x26 : Int) (x27 : Int) {y : AV × Mem} (h : (
  brn (decide (x27 ≤ x26)) (chk ((0 : Int) ≤ x27) <|
   chk ((x27 : Int) < ((↑(List.map dGRatio.enc a0).length : Int))) <|
   elemD dGRatio x24 (0 + x27.toNat) fun (c28 : GRatio) =>
   chk ((0 : Int) ≤ a1) <|
   chk ((a1 : Int) < ((↑(List.map dGRatio.enc a0).length : Int))) <|
   elemD dGRatio x24 (0 + a1.toNat) fun (c29 : GRatio) =>
   callD r_ratio_Compare (cw f_ratio_Compare [.agg (dGRatio.enc c28), .agg (dGRatio.enc c29)] []) fun (r30 : Int) =>
   brn (decide (r30 < 0)) (k_slices_partitionCmpFunc_api_Ratio_4 a0 a1 x24 x26 (w64 (x27 + 1)))
   (k_slices_partitionCmpFunc_api_Ratio_5 a0 a1 x24 x26 x27))
  (k_slices_partitionCmpFunc_api_Ratio_5 a0 a1 x24 x26 x27)) = some y) : k_slices_partitionCmpFunc_api_Ratio_4 a0 a1 x24 x26 x27 = some y :=
  pt_of zT [17, 7] (by kernel_rfl) h

theorem t_slices_partitionCmpFunc_api_Ratio_5 (a0 : List GRatio) (a1 : Int) (x24 : List (List AV)) (x26 : Int) (x27 : Int) {y : AV × Mem} (h : (
  brn (decide (x27 ≤ x26)) (chk ((0 : Int) ≤ x26) <|
   chk ((x26 : Int) < ((↑(List.map dGRatio.enc a0).length : Int))) <|
   elemD dGRatio x24 (0 + x26.toNat) fun (c31 : GRatio) =>
   chk ((0 : Int) ≤ a1) <|
   chk ((a1 : Int) < ((↑(List.map dGRatio.enc a0).length : Int))) <|
   elemD dGRatio x24 (0 + a1.toNat) fun (c32 : GRatio) =>
   callD r_ratio_Compare (cw f_ratio_Compare [.agg (dGRatio.enc c31), .agg (dGRatio.enc c32)] []) fun (r33 : Int) =>
   brn (!decide (r33 < 0)) (k_slices_partitionCmpFunc_api_Ratio_5v1 a0 a1 x24 x27 (w64 (x26 - 1)))
   (k_slices_partitionCmpFunc_api_Ratio_1017 a0 a1 x24 x27 x26))
  (k_slices_partitionCmpFunc_api_Ratio_1017 a0 a1 x24 x27 x26)) = some y) : k_slices_partitionCmpFunc_api_Ratio_5 a0 a1 x24 x26 x27 = some y :=
  pt_of zT [17, 7] (by kernel_rfl) h

theorem t_slices_partitionCmpFunc_api_Ratio_5v1 (a0 : List GRatio) (a1 : Int) (x24 : List (List AV)) (x27 : Int) (x34 : Int) {y : AV × Mem} (h : (
  brn (decide (x27 ≤ x34)) (chk ((0 : Int) ≤ x34) <|
   chk ((x34 : Int) < ((↑(List.map dGRatio.enc a0).length : Int))) <|
   elemD dGRatio x24 (0 + x34.toNat) fun (c36 : GRatio) =>
   chk ((0 : Int) ≤ a1) <|
   chk ((a1 : Int) < ((↑(List.map dGRatio.enc a0).length : Int))) <|
   elemD dGRatio x24 (0 + a1.toNat) fun (c37 : GRatio) =>
   callD r_ratio_Compare (cw f_ratio_Compare [.agg (dGRatio.enc c36), .agg (dGRatio.enc c37)] []) fun (r38 : Int) =>
   brn (!decide (r38 < 0)) (k_slices_partitionCmpFunc_api_Ratio_5v1 a0 a1 x24 x27 (w64 (x34 - 1)))
   (k_slices_partitionCmpFunc_api_Ratio_1017 a0 a1 x24 x27 x34))
  (k_slices_partitionCmpFunc_api_Ratio_1017 a0 a1 x24 x27 x34)) = some y) : k_slices_partitionCmpFunc_api_Ratio_5v1 a0 a1 x24 x27 x34 = some y :=
  pt_of zT [17, 7] (by kernel_rfl) h

theorem t_slices_partitionCmpFunc_api_Ratio_1017 (a0 : List GRatio) (a1 : Int) (x24 : List (List AV)) (x27 : Int) (x35 : Int) {y : AV × Mem} (h : (
  brn (decide (x35 < x27)) (chk ((0 : Int) ≤ a1) <|
   chk ((a1 : Int) < ((↑(List.map dGRatio.enc a0).length : Int))) <|
   elemD dGRatio x24 (0 + a1.toNat) fun (c39 : GRatio) =>
   chk ((0 : Int) ≤ x35) <|
   chk ((x35 : Int) < ((↑(List.map dGRatio.enc a0).length : Int))) <|
   elemD dGRatio x24 (0 + x35.toNat) fun (c40 : GRatio) =>
   chk ((0 : Int) ≤ x35) <|
   chk ((x35 : Int) < ((↑(List.map dGRatio.enc a0).length : Int))) <|
   elemD dGRatio x24 (0 + x35.toNat) fun (c41 : GRatio) =>
   chk ((0 : Int) ≤ a1) <|
   chk ((a1 : Int) < ((↑(List.map dGRatio.enc a0).length : Int))) <|
   elemD dGRatio (List.set x24 (0 + x35.toNat) (dGRatio.enc c39)) (0 + a1.toNat) fun (c42 : GRatio) =>
   some (.tup [I x35, B false], [(1000, ⟨2, ty_api_Ratio, List.set (List.set x24 (0 + x35.toNat) (dGRatio.enc c39)) (0 + a1.toNat) (dGRatio.enc c40), false⟩)]))
  (chk ((0 : Int) ≤ x35) <|
   chk ((x35 : Int) < ((↑(List.map dGRatio.enc a0).length : Int))) <|
   elemD dGRatio x24 (0 + x35.toNat) fun (c43 : GRatio) =>
   chk ((0 : Int) ≤ x27) <|
   chk ((x27 : Int) < ((↑(List.map dGRatio.enc a0).length : Int))) <|
   elemD dGRatio x24 (0 + x27.toNat) fun (c44 : GRatio) =>
   chk ((0 : Int) ≤ x27) <|
   chk ((x27 : Int) < ((↑(List.map dGRatio.enc a0).length : Int))) <|
   elemD dGRatio x24 (0 + x27.toNat) fun (c45 : GRatio) =>
   chk ((0 : Int) ≤ x35) <|
   chk ((x35 : Int) < ((↑(List.map dGRatio.enc a0).length : Int))) <|
   elemD dGRatio (List.set x24 (0 + x27.toNat) (dGRatio.enc c43)) (0 + x35.toNat) fun (c46 : GRatio) =>
   k_slices_partitionCmpFunc_api_Ratio_3 a0 a1 (List.set (List.set x24 (0 + x27.toNat) (dGRatio.enc c43)) (0 + x35.toNat) (dGRatio.enc c44)) (w64 (x27 + 1)) (w64 (x35 - 1)))) = some y) : k_slices_partitionCmpFunc_api_Ratio_1017 a0 a1 x24 x27 x35 = some y :=
  pt_of zT [17, 7] (by kernel_rfl) h

theorem e_slices_partitionCmpFunc_api_Ratio (a0 : List GRatio) (a1 : Int) (a2 : Int) (a3 : Int) {y : AV × Mem} (h : (
  chk ((0 : Int) ≤ a3) <|
  chk ((a3 : Int) < ((↑(List.map dGRatio.enc a0).length : Int))) <|
  elemD dGRatio (List.map dGRatio.enc a0) (0 + a3.toNat) fun (c0 : GRatio) =>
  chk ((0 : Int) ≤ a1) <|
  chk ((a1 : Int) < ((↑(List.map dGRatio.enc a0).length : Int))) <|
  elemD dGRatio (List.map dGRatio.enc a0) (0 + a1.toNat) fun (c1 : GRatio) =>
  chk ((0 : Int) ≤ a1) <|
  chk ((a1 : Int) < ((↑(List.map dGRatio.enc a0).length : Int))) <|
  elemD dGRatio (List.map dGRatio.enc a0) (0 + a1.toNat) fun (c2 : GRatio) =>
  chk ((0 : Int) ≤ a3) <|
  chk ((a3 : Int) < ((↑(List.map dGRatio.enc a0).length : Int))) <|
  elemD dGRatio (List.set (List.map dGRatio.enc a0) (0 + a1.toNat) (dGRatio.enc c0)) (0 + a3.toNat) fun (c3 : GRatio) =>
  k_slices_partitionCmpFunc_api_Ratio_1 a0 a1 a2 a3 c0 c1 c2 c3 (w64 (a1 + 1))) = some y) : cw f_slices_partitionCmpFunc_api_Ratio [.row 1000 2 0 (List.length (List.map dGRatio.enc a0)), I a1, I a2, I a3, .fn f_ratio_Compare []] [(1000, ⟨2, ty_api_Ratio, List.map dGRatio.enc a0, false⟩)] = some y :=
  callw_tree R_slices_partitionCmpFunc_api_Ratio zT [17, 7] (by kernel_rfl) (by kernel_rfl) (by kernel_rfl) (by kernel_rfl) (by kernel_rfl) h

theorem e_bits_Len64_0 {y : AV × Mem} (h : (
  some (I (w64 (0 + w64 (↑(0 % 2 ^ 8) : Int))), [])) = some y) : cw f_bits_Len64 [.v (.int .u64 0)] [] = some y :=
  callw_tree R_bits_Len64 zT [] (by kernel_rfl) (by kernel_rfl) (by kernel_rfl) (by kernel_rfl) (by kernel_rfl) h

theorem e_bits_Len64_1 {y : AV × Mem} (h : (
  some (I (w64 (0 + w64 (↑(1 % 2 ^ 8) : Int))), [])) = some y) : cw f_bits_Len64 [.v (.int .u64 1)] [] = some y :=
  callw_tree R_bits_Len64 zT [] (by kernel_rfl) (by kernel_rfl) (by kernel_rfl) (by kernel_rfl) (by kernel_rfl) h

theorem e_bits_Len64_2 {y : AV × Mem} (h : (
  some (I (w64 (0 + w64 (↑(2 % 2 ^ 8) : Int))), [])) = some y) : cw f_bits_Len64 [.v (.int .u64 2)] [] = some y :=
  callw_tree R_bits_Len64 zT [] (by kernel_rfl) (by kernel_rfl) (by kernel_rfl) (by kernel_rfl) (by kernel_rfl) h

theorem e_bits_Len64_3 {y : AV × Mem} (h : (
  some (I (w64 (0 + w64 (↑(2 % 2 ^ 8) : Int))), [])) = some y) : cw f_bits_Len64 [.v (.int .u64 3)] [] = some y :=
  callw_tree R_bits_Len64 zT [] (by kernel_rfl) (by kernel_rfl) (by kernel_rfl) (by kernel_rfl) (by kernel_rfl) h

theorem e_bits_Len64_4 {y : AV × Mem} (h : (
  some (I (w64 (0 + w64 (↑(3 % 2 ^ 8) : Int))), [])) = some y) : cw f_bits_Len64 [.v (.int .u64 4)] [] = some y :=
  callw_tree R_bits_Len64 zT [] (by kernel_rfl) (by kernel_rfl) (by kernel_rfl) (by kernel_rfl) (by kernel_rfl) h

end Go.Proofs.Ytapkemilafogjaa
