/- What the functions compute, between two cut points: printed by a program, checked by the kernel. -/
import Derived.Test.YtiienbfdcgipnaaAnn
namespace Go.Proofs.Ytiienbfdcgipnaa
open Go.Ab
set_option maxRecDepth 100000
set_option linter.unusedVariables false

noncomputable def k_slices_partitionCmpFunc_api_Ratio_1 (a0 : List GRatio) (a1 : Int) (a2 : Int) (a3 : Int) (c0 : GRatio) (c1 : GRatio) (c2 : GRatio) (c3 : GRatio) (x4 : Int) : Option (AV × Mem) := pt R_slices_partitionCmpFunc_api_Ratio 1 ⟨[(0, .row 1000 2 0 ((List.map dGRatio.enc a0).length)), (1, I a1), (4, .fn f_ratio_Compare []), (12, I x4), (13, I (w64 (a2 - 1)))], [(1000, ⟨2, ty_api_Ratio, List.set (List.set (List.map dGRatio.enc a0) (0 + a1.toNat) (dGRatio.enc c0)) (0 + a3.toNat) (dGRatio.enc c1), false⟩)]⟩

noncomputable def k_slices_partitionCmpFunc_api_Ratio_2 (a0 : List GRatio) (a1 : Int) (a2 : Int) (a3 : Int) (c0 : GRatio) (c1 : GRatio) (c2 : GRatio) (c3 : GRatio) (x4 : Int) : Option (AV × Mem) := pt R_slices_partitionCmpFunc_api_Ratio 2 ⟨[(0, .row 1000 2 0 ((List.map dGRatio.enc a0).length)), (1, I a1), (4, .fn f_ratio_Compare []), (12, I x4), (13, I (w64 (a2 - 1))), (47, B false)], [(1000, ⟨2, ty_api_Ratio, List.set (List.set (List.map dGRatio.enc a0) (0 + a1.toNat) (dGRatio.enc c0)) (0 + a3.toNat) (dGRatio.enc c1), false⟩)]⟩

noncomputable def k_slices_partitionCmpFunc_api_Ratio_2v1 (a0 : List GRatio) (a1 : Int) (a2 : Int) (a3 : Int) (c0 : GRatio) (c1 : GRatio) (c2 : GRatio) (c3 : GRatio) (x4 : Int) (x11 : Int) : Option (AV × Mem) := pt R_slices_partitionCmpFunc_api_Ratio 2 ⟨[(0, .row 1000 2 0 ((List.map dGRatio.enc a0).length)), (1, I a1), (4, .fn f_ratio_Compare []), (12, I x4), (13, I x11)], [(1000, ⟨2, ty_api_Ratio, List.set (List.set (List.map dGRatio.enc a0) (0 + a1.toNat) (dGRatio.enc c0)) (0 + a3.toNat) (dGRatio.enc c1), false⟩)]⟩

noncomputable def k_slices_partitionCmpFunc_api_Ratio_1007 (a0 : List GRatio) (a1 : Int) (a2 : Int) (a3 : Int) (c0 : GRatio) (c1 : GRatio) (c2 : GRatio) (c3 : GRatio) (x4 : Int) (x12 : Int) : Option (AV × Mem) := pt R_slices_partitionCmpFunc_api_Ratio 1007 ⟨[(0, .row 1000 2 0 ((List.map dGRatio.enc a0).length)), (1, I a1), (4, .fn f_ratio_Compare []), (12, I x4), (13, I x12), (66, B false)], [(1000, ⟨2, ty_api_Ratio, List.set (List.set (List.map dGRatio.enc a0) (0 + a1.toNat) (dGRatio.enc c0)) (0 + a3.toNat) (dGRatio.enc c1), false⟩)]⟩

noncomputable def k_slices_partitionCmpFunc_api_Ratio_3 (a0 : List GRatio) (a1 : Int) (x24 : List (List AV)) (x25 : Int) (x26 : Int) : Option (AV × Mem) := pt R_slices_partitionCmpFunc_api_Ratio 3 ⟨[(0, .row 1000 2 0 ((List.map dGRatio.enc a0).length)), (1, I a1), (4, .fn f_ratio_Compare []), (12, I x25), (13, I x26)], [(1000, ⟨2, ty_api_Ratio, x24, false⟩)]⟩

noncomputable def k_slices_partitionCmpFunc_api_Ratio_4 (a0 : List GRatio) (a1 : Int) (x24 : List (List AV)) (x26 : Int) (x27 : Int) : Option (AV × Mem) := pt R_slices_partitionCmpFunc_api_Ratio 4 ⟨[(0, .row 1000 2 0 ((List.map dGRatio.enc a0).length)), (1, I a1), (4, .fn f_ratio_Compare []), (12, I x27), (13, I x26)], [(1000, ⟨2, ty_api_Ratio, x24, false⟩)]⟩

noncomputable def k_slices_partitionCmpFunc_api_Ratio_5 (a0 : List GRatio) (a1 : Int) (x24 : List (List AV)) (x26 : Int) (x27 : Int) : Option (AV × Mem) := pt R_slices_partitionCmpFunc_api_Ratio 5 ⟨[(0, .row 1000 2 0 ((List.map dGRatio.enc a0).length)), (1, I a1), (4, .fn f_ratio_Compare []), (12, I x27), (13, I x26), (120, B false)], [(1000, ⟨2, ty_api_Ratio, x24, false⟩)]⟩

noncomputable def k_slices_partitionCmpFunc_api_Ratio_5v1 (a0 : List GRatio) (a1 : Int) (x24 : List (List AV)) (x27 : Int) (x34 : Int) : Option (AV × Mem) := pt R_slices_partitionCmpFunc_api_Ratio 5 ⟨[(0, .row 1000 2 0 ((List.map dGRatio.enc a0).length)), (1, I a1), (4, .fn f_ratio_Compare []), (12, I x27), (13, I x34)], [(1000, ⟨2, ty_api_Ratio, x24, false⟩)]⟩

noncomputable def k_slices_partitionCmpFunc_api_Ratio_1017 (a0 : List GRatio) (a1 : Int) (x24 : List (List AV)) (x27 : Int) (x35 : Int) : Option (AV × Mem) := pt R_slices_partitionCmpFunc_api_Ratio 1017 ⟨[(0, .row 1000 2 0 ((List.map dGRatio.enc a0).length)), (1, I a1), (4, .fn f_ratio_Compare []), (12, I x27), (13, I x35), (139, B false)], [(1000, ⟨2, ty_api_Ratio, x24, false⟩)]⟩

theorem t_slices_partitionCmpFunc_api_Ratio_1 (a0 : List GRatio) (a1 : Int) (a2 : Int) (a3 : Int) (c0 : GRatio) (c1 : GRatio) (c2 : GRatio) (c3 : GRatio) (x4 : Int) {y : AV × Mem} (h : (
  brn (decide (x4 ≤ w64 (a2 - 1))) (chk ((0 : Int) ≤ x4) <|
   chk ((x4 : Int) < ((↑(List.map dGRatio.enc a0).length : Int))) <|
   elemD dGRatio (List.set (List.set (List.map dGRatio.enc a0) (0 + a1.toNat) (dGRatio.enc c0)) (0 + a3.toNat) (dGRatio.enc c1)) (0 + x4.toNat) fun (c5 : GRatio) =>
   chk ((0 : Int) ≤ a1) <|
   chk ((a1 : Int) < ((↑(List.map dGRatio.enc a0).length : Int))) <|
   elemD dGRatio (List.set (List.set (List.map dGRatio.enc a0) (0 + a1.toNat) (dGRatio.enc c0)) (0 + a3.toNat) (dGRatio.enc c1)) (0 + a1.toNat) fun (c6 : GRatio) =>
   callD r_ratio_Compare (cw f_ratio_Compare [.agg (dGRatio.enc c5), .agg (dGRatio.enc c6)] []) fun (r7 : Int) =>
   brn (decide (r7 < 0)) (k_slices_partitionCmpFunc_api_Ratio_1 a0 a1 a2 a3 c0 c1 c2 c3 (w64 (x4 + 1)))
   (k_slices_partitionCmpFunc_api_Ratio_2 a0 a1 a2 a3 c0 c1 c2 c3 x4))
  (k_slices_partitionCmpFunc_api_Ratio_2 a0 a1 a2 a3 c0 c1 c2 c3 x4)) = some y) : k_slices_partitionCmpFunc_api_Ratio_1 a0 a1 a2 a3 c0 c1 c2 c3 x4 = some y :=
  pt_of zT [17, 7] (by kernel_rfl) h

theorem t_slices_partitionCmpFunc_api_Ratio_2 (a0 : List GRatio) (a1 : Int) (a2 : Int) (a3 : Int) (c0 : GRatio) (c1 : GRatio) (c2 : GRatio) (c3 : GRatio) (x4 : Int) {y : AV × Mem} (h : (
  brn (decide (x4 ≤ w64 (a2 - 1))) (chk ((0 : Int) ≤ (w64 (a2 - 1))) <|
   chk ((w64 (a2 - 1) : Int) < ((↑(List.map dGRatio.enc a0).length : Int))) <|
   elemD dGRatio (List.set (List.set (List.map dGRatio.enc a0) (0 + a1.toNat) (dGRatio.enc c0)) (0 + a3.toNat) (dGRatio.enc c1)) (0 + (w64 (a2 - 1)).toNat) fun (c8 : GRatio) =>
   chk ((0 : Int) ≤ a1) <|
   chk ((a1 : Int) < ((↑(List.map dGRatio.enc a0).length : Int))) <|
   elemD dGRatio (List.set (List.set (List.map dGRatio.enc a0) (0 + a1.toNat) (dGRatio.enc c0)) (0 + a3.toNat) (dGRatio.enc c1)) (0 + a1.toNat) fun (c9 : GRatio) =>
   callD r_ratio_Compare (cw f_ratio_Compare [.agg (dGRatio.enc c8), .agg (dGRatio.enc c9)] []) fun (r10 : Int) =>
   brn (!decide (r10 < 0)) (k_slices_partitionCmpFunc_api_Ratio_2v1 a0 a1 a2 a3 c0 c1 c2 c3 x4 (w64 (w64 (a2 - 1) - 1)))
   (k_slices_partitionCmpFunc_api_Ratio_1007 a0 a1 a2 a3 c0 c1 c2 c3 x4 (w64 (a2 - 1))))
  (k_slices_partitionCmpFunc_api_Ratio_1007 a0 a1 a2 a3 c0 c1 c2 c3 x4 (w64 (a2 - 1)))) = some y) : k_slices_partitionCmpFunc_api_Ratio_2 a0 a1 a2 a3 c0 c1 c2 c3 x4 = some y :=
  pt_of zT [17, 7] (by kernel_rfl) h

theorem t_slices_partitionCmpFunc_api_Ratio_2v1 (a0 : List GRatio) (a1 : Int) (a2 : Int) (a3 : Int) (c0 : GRatio) (c1 : GRatio) (c2 : GRatio) (c3 : GRatio) (x4 : Int) (x11 : Int) {y : AV × Mem} (h : (
  brn (decide (x4 ≤ x11)) (chk ((0 : Int) ≤ x11) <|
   chk ((x11 : Int) < ((↑(List.map dGRatio.enc a0).length : Int))) <|
   elemD dGRatio (List.set (List.set (List.map dGRatio.enc a0) (0 + a1.toNat) (dGRatio.enc c0)) (0 + a3.toNat) (dGRatio.enc c1)) (0 + x11.toNat) fun (c13 : GRatio) =>
   chk ((0 : Int) ≤ a1) <|
   chk ((a1 : Int) < ((↑(List.map dGRatio.enc a0).length : Int))) <|
   elemD dGRatio (List.set (List.set (List.map dGRatio.enc a0) (0 + a1.toNat) (dGRatio.enc c0)) (0 + a3.toNat) (dGRatio.enc c1)) (0 + a1.toNat) fun (c14 : GRatio) =>
   callD r_ratio_Compare (cw f_ratio_Compare [.agg (dGRatio.enc c13), .agg (dGRatio.enc c14)] []) fun (r15 : Int) =>
   brn (!decide (r15 < 0)) (k_slices_partitionCmpFunc_api_Ratio_2v1 a0 a1 a2 a3 c0 c1 c2 c3 x4 (w64 (x11 - 1)))
   (k_slices_partitionCmpFunc_api_Ratio_1007 a0 a1 a2 a3 c0 c1 c2 c3 x4 x11))
  (k_slices_partitionCmpFunc_api_Ratio_1007 a0 a1 a2 a3 c0 c1 c2 c3 x4 x11)) = some y) : k_slices_partitionCmpFunc_api_Ratio_2v1 a0 a1 a2 a3 c0 c1 c2 c3 x4 x11 = some y :=
  pt_of zT [17, 7] (by kernel_rfl) h

theorem t_slices_partitionCmpFunc_api_Ratio_1007 (a0 : List GRatio) (a1 : Int) (a2 : Int) (a3 : Int) (c0 : GRatio) (c1 : GRatio) (c2 : GRatio) (c3 : GRatio) (x4 : Int) (x12 : Int) {y : AV × Mem} (h : (
  brn (decide (x12 < x4)) (chk ((0 : Int) ≤ a1) <|
   chk ((a1 : Int) < ((↑(List.map dGRatio.enc a0).length : Int))) <|
   elemD dGRatio (List.set (List.set (List.map dGRatio.enc a0) (0 + a1.toNat) (dGRatio.enc c0)) (0 + a3.toNat) (dGRatio.enc c1)) (0 + a1.toNat) fun (c16 : GRatio) =>
   chk ((0 : Int) ≤ x12) <|
   chk ((x12 : Int) < ((↑(List.map dGRatio.enc a0).length : Int))) <|
   elemD dGRatio (List.set (List.set (List.map dGRatio.enc a0) (0 + a1.toNat) (dGRatio.enc c0)) (0 + a3.toNat) (dGRatio.enc c1)) (0 + x12.toNat) fun (c17 : GRatio) =>
   chk ((0 : Int) ≤ x12) <|
   chk ((x12 : Int) < ((↑(List.map dGRatio.enc a0).length : Int))) <|
   elemD dGRatio (List.set (List.set (List.map dGRatio.enc a0) (0 + a1.toNat) (dGRatio.enc c0)) (0 + a3.toNat) (dGRatio.enc c1)) (0 + x12.toNat) fun (c18 : GRatio) =>
   chk ((0 : Int) ≤ a1) <|
   chk ((a1 : Int) < ((↑(List.map dGRatio.enc a0).length : Int))) <|
   elemD dGRatio (List.set (List.set (List.set (List.map dGRatio.enc a0) (0 + a1.toNat) (dGRatio.enc c0)) (0 + a3.toNat) (dGRatio.enc c1)) (0 + x12.toNat) (dGRatio.enc c16)) (0 + a1.toNat) fun (c19 : GRatio) =>
   some (.tup [I x12, B true], [(1000, ⟨2, ty_api_Ratio, List.set (List.set (List.set (List.set (List.map dGRatio.enc a0) (0 + a1.toNat) (dGRatio.enc c0)) (0 + a3.toNat) (dGRatio.enc c1)) (0 + x12.toNat) (dGRatio.enc c16)) (0 + a1.toNat) (dGRatio.enc c17), false⟩)]))
  (chk ((0 : Int) ≤ x12) <|
   chk ((x12 : Int) < ((↑(List.map dGRatio.enc a0).length : Int))) <|
   elemD dGRatio (List.set (List.set (List.map dGRatio.enc a0) (0 + a1.toNat) (dGRatio.enc c0)) (0 + a3.toNat) (dGRatio.enc c1)) (0 + x12.toNat) fun (c20 : GRatio) =>
   chk ((0 : Int) ≤ x4) <|
   chk ((x4 : Int) < ((↑(List.map dGRatio.enc a0).length : Int))) <|
   elemD dGRatio (List.set (List.set (List.map dGRatio.enc a0) (0 + a1.toNat) (dGRatio.enc c0)) (0 + a3.toNat) (dGRatio.enc c1)) (0 + x4.toNat) fun (c21 : GRatio) =>
   chk ((0 : Int) ≤ x4) <|
   chk ((x4 : Int) < ((↑(List.map dGRatio.enc a0).length : Int))) <|
   elemD dGRatio (List.set (List.set (List.map dGRatio.enc a0) (0 + a1.toNat) (dGRatio.enc c0)) (0 + a3.toNat) (dGRatio.enc c1)) (0 + x4.toNat) fun (c22 : GRatio) =>
   chk ((0 : Int) ≤ x12) <|
   chk ((x12 : Int) < ((↑(List.map dGRatio.enc a0).length : Int))) <|
   elemD dGRatio (List.set (List.set (List.set (List.map dGRatio.enc a0) (0 + a1.toNat) (dGRatio.enc c0)) (0 + a3.toNat) (dGRatio.enc c1)) (0 + x4.toNat) (dGRatio.enc c20)) (0 + x12.toNat) fun (c23 : GRatio) =>
   k_slices_partitionCmpFunc_api_Ratio_3 a0 a1 (List.set (List.set (List.set (List.set (List.map dGRatio.enc a0) (0 + a1.toNat) (dGRatio.enc c0)) (0 + a3.toNat) (dGRatio.enc c1)) (0 + x4.toNat) (dGRatio.enc c20)) (0 + x12.toNat) (dGRatio.enc c21)) (w64 (x4 + 1)) (w64 (x12 - 1)))) = some y) : k_slices_partitionCmpFunc_api_Ratio_1007 a0 a1 a2 a3 c0 c1 c2 c3 x4 x12 = some y :=
  pt_of zT [17, 7] (by kernel_rfl) h

theorem t_slices_partitionCmpFunc_api_Ratio_3 (a0 : List GRatio) (a1 : Int) (x24 : List (List AV)) (x25 : Int) (x26 : Int) {y : AV × Mem} (h : (
  k_slices_partitionCmpFunc_api_Ratio_4 a0 a1 x24 x26 x25) = some y) : k_slices_partitionCmpFunc_api_Ratio_3 a0 a1 x24 x25 x26 = some y :=
  pt_of zT [17, 7] (by kernel_rfl) h

theorem t_slices_partitionCmpFunc_api_Ratio_4 (a0 : List GRatio) (a1 : Int) (x24 : List (List AV)) (x26 : Int) (x27 : Int) {y : AV × Mem} (h : (
  brn (decide (x27 ≤ x26)) (chk ((0 : Int) ≤ x27) <|
   chk ((x27 : Int) < ((↑(List.map dGRatio.enc a0).length : Int))) <|
   elemD dGRatio x24 (0 + x27.toNat) fun (c28 : GRatio) =>
   chk ((0 : Int) ≤ a1) <|
   chk ((a1 : Int) < ((↑(List.map dGRatio.enc a0).length : Int))) <|
   elemD dGRatio x24 (0 + a1.toNat) fun (c29 : GRatio) =>
   callD r_ratio_Compare (cw f_ratio_Compare [.agg (dGRatio.enc c28), .agg (dGRatio.enc c29)] []) fun (r30 : Int) =>
   brn (decide (r30 < 0)) (k_slices_partitionCmpFunc_api_Ratio_4 a0 a1 x24 x26 (w64 (x27 + 1)))
   (k_slices_partitionCmpFunc_api_Ratio_5 a0 a1 x24 x26 x27))
  (k_slices_partitionCmpFunc_api_Ratio_5 a0 a1 x24 x26 x27)) = some y) : k_slices_partitionCmpFunc_api_Ratio_4 a0 a1 x24 x26 x27 = some y :=
  pt_of zT [17, 7] (by kernel_rfl) h

theorem t_slices_partitionCmpFunc_api_Ratio_5 (a0 : List GRatio) (a1 : Int) (x24 : List (List AV)) (x26 : Int) (x27 : Int) {y : AV × Mem} (h : (
  brn (decide (x27 ≤ x26)) (chk ((0 : Int) ≤ x26) <|
   chk ((x26 : Int) < ((↑(List.map dGRatio.enc a0).length : Int))) <|
   elemD dGRatio x24 (0 + x26.toNat) fun (c31 : GRatio) =>
   chk ((0 : Int) ≤ a1) <|
   chk ((a1 : Int) < ((↑(List.map dGRatio.enc a0).length : Int))) <|
   elemD dGRatio x24 (0 + a1.toNat) fun (c32 : GRatio) =>
   callD r_ratio_Compare (cw f_ratio_Compare [.agg (dGRatio.enc c31), .agg (dGRatio.enc c32)] []) fun (r33 : Int) =>
   brn (!decide (r33 < 0)) (k_slices_partitionCmpFunc_api_Ratio_5v1 a0 a1 x24 x27 (w64 (x26 - 1)))
   (k_slices_partitionCmpFunc_api_Ratio_1017 a0 a1 x24 x27 x26))
  (k_slices_partitionCmpFunc_api_Ratio_1017 a0 a1 x24 x27 x26)) = some y) : k_slices_partitionCmpFunc_api_Ratio_5 a0 a1 x24 x26 x27 = some y :=
  pt_of zT [17, 7] (by kernel_rfl) h

theorem t_slices_partitionCmpFunc_api_Ratio_5v1 (a0 : List GRatio) (a1 : Int) (x24 : List (List AV)) (x27 : Int) (x34 : Int) {y : AV × Mem} (h : (
  brn (decide (x27 ≤ x34)) (chk ((0 : Int) ≤ x34) <|
   chk ((x34 : Int) < ((↑(List.map dGRatio.enc a0).length : Int))) <|
   elemD dGRatio x24 (0 + x34.toNat) fun (c36 : GRatio) =>
   chk ((0 : Int) ≤ a1) <|
   chk ((a1 : Int) < ((↑(List.map dGRatio.enc a0).length : Int))) <|
   elemD dGRatio x24 (0 + a1.toNat) fun (c37 : GRatio) =>
   callD r_ratio_Compare (cw f_ratio_Compare [.agg (dGRatio.enc c36), .agg (dGRatio.enc c37)] []) fun (r38 : Int) =>
   brn (!decide (r38 < 0)) (k_slices_partitionCmpFunc_api_Ratio_5v1 a0 a1 x24 x27 (w64 (x34 - 1)))
   (k_slices_partitionCmpFunc_api_Ratio_1017 a0 a1 x24 x27 x34))
  (k_slices_partitionCmpFunc_api_Ratio_1017 a0 a1 x24 x27 x34)) = some y) : k_slices_partitionCmpFunc_api_Ratio_5v1 a0 a1 x24 x27 x34 = some y :=
  pt_of zT [17, 7] (by kernel_rfl) h

theorem t_slices_partitionCmpFunc_api_Ratio_1017 (a0 : List GRatio) (a1 : Int) (x24 : List (List AV)) (x27 : Int) (x35 : Int) {y : AV × Mem} (h : (
  brn (decide (x35 < x27)) (chk ((0 : Int) ≤ a1) <|
   chk ((a1 : Int) < ((↑(List.map dGRatio.enc a0).length : Int))) <|
   elemD dGRatio x24 (0 + a1.toNat) fun (c39 : GRatio) =>
   chk ((0 : Int) ≤ x35) <|
   chk ((x35 : Int) < ((↑(List.map dGRatio.enc a0).length : Int))) <|
   elemD dGRatio x24 (0 + x35.toNat) fun (c40 : GRatio) =>
   chk ((0 : Int) ≤ x35) <|
   chk ((x35 : Int) < ((↑(List.map dGRatio.enc a0).length : Int))) <|
   elemD dGRatio x24 (0 + x35.toNat) fun (c41 : GRatio) =>
   chk ((0 : Int) ≤ a1) <|
   chk ((a1 : Int) < ((↑(List.map dGRatio.enc a0).length : Int))) <|
   elemD dGRatio (List.set x24 (0 + x35.toNat) (dGRatio.enc c39)) (0 + a1.toNat) fun (c42 : GRatio) =>
   some (.tup [I x35, B false], [(1000, ⟨2, ty_api_Ratio, List.set (List.set x24 (0 + x35.toNat) (dGRatio.enc c39)) (0 + a1.toNat) (dGRatio.enc c40), false⟩)]))
  (chk ((0 : Int) ≤ x35) <|
   chk ((x35 : Int) < ((↑(List.map dGRatio.enc a0).length : Int))) <|
   elemD dGRatio x24 (0 + x35.toNat) fun (c43 : GRatio) =>
   chk ((0 : Int) ≤ x27) <|
   chk ((x27 : Int) < ((↑(List.map dGRatio.enc a0).length : Int))) <|
   elemD dGRatio x24 (0 + x27.toNat) fun (c44 : GRatio) =>
   chk ((0 : Int) ≤ x27) <|
   chk ((x27 : Int) < ((↑(List.map dGRatio.enc a0).length : Int))) <|
   elemD dGRatio x24 (0 + x27.toNat) fun (c45 : GRatio) =>
   chk ((0 : Int) ≤ x35) <|
   chk ((x35 : Int) < ((↑(List.map dGRatio.enc a0).length : Int))) <|
   elemD dGRatio (List.set x24 (0 + x27.toNat) (dGRatio.enc c43)) (0 + x35.toNat) fun (c46 : GRatio) =>
   k_slices_partitionCmpFunc_api_Ratio_3 a0 a1 (List.set (List.set x24 (0 + x27.toNat) (dGRatio.enc c43)) (0 + x35.toNat) (dGRatio.enc c44)) (w64 (x27 + 1)) (w64 (x35 - 1)))) = some y) : k_slices_partitionCmpFunc_api_Ratio_1017 a0 a1 x24 x27 x35 = some y :=
  pt_of zT [17, 7] (by kernel_rfl) h

theorem e_slices_partitionCmpFunc_api_Ratio (a0 : List GRatio) (a1 : Int) (a2 : Int) (a3 : Int) {y : AV × Mem} (h : (
  chk ((0 : Int) ≤ a3) <|
  chk ((a3 : Int) < ((↑(List.map dGRatio.enc a0).length : Int))) <|
  elemD dGRatio (List.map dGRatio.enc a0) (0 + a3.toNat) fun (c0 : GRatio) =>
  chk ((0 : Int) ≤ a1) <|
  chk ((a1 : Int) < ((↑(List.map dGRatio.enc a0).length : Int))) <|
  elemD dGRatio (List.map dGRatio.enc a0) (0 + a1.toNat) fun (c1 : GRatio) =>
  chk ((0 : Int) ≤ a1) <|
  chk ((a1 : Int) < ((↑(List.map dGRatio.enc a0).length : Int))) <|
  elemD dGRatio (List.map dGRatio.enc a0) (0 + a1.toNat) fun (c2 : GRatio) =>
  chk ((0 : Int) ≤ a3) <|
  chk ((a3 : Int) < ((↑(List.map dGRatio.enc a0).length : Int))) <|
  elemD dGRatio (List.set (List.map dGRatio.enc a0) (0 + a1.toNat) (dGRatio.enc c0)) (0 + a3.toNat) fun (c3 : GRatio) =>
  k_slices_partitionCmpFunc_api_Ratio_1 a0 a1 a2 a3 c0 c1 c2 c3 (w64 (a1 + 1))) = some y) : cw f_slices_partitionCmpFunc_api_Ratio [.row 1000 2 0 (List.length (List.map dGRatio.enc a0)), I a1, I a2, I a3, .fn f_ratio_Compare []] [(1000, ⟨2, ty_api_Ratio, List.map dGRatio.enc a0, false⟩)] = some y :=
  callw_tree R_slices_partitionCmpFunc_api_Ratio zT [17, 7] (by kernel_rfl) (by kernel_rfl) (by kernel_rfl) (by kernel_rfl) (by kernel_rfl) h

theorem e_bits_Len64_0 {y : AV × Mem} (h : (
  some (I (w64 (0 + w64 (↑(0 % 2 ^ 8) : Int))), [])) = some y) : cw f_bits_Len64 [.v (.int .u64 0)] [] = some y :=
  callw_tree R_bits_Len64 zT [] (by kernel_rfl) (by kernel_rfl) (by kernel_rfl) (by kernel_rfl) (by kernel_rfl) h

theorem e_bits_Len64_1 {y : AV × Mem} (h : (
  some (I (w64 (0 + w64 (↑(1 % 2 ^ 8) : Int))), [])) = some y) : cw f_bits_Len64 [.v (.int .u64 1)] [] = some y :=
  callw_tree R_bits_Len64 zT [] (by kernel_rfl) (by kernel_rfl) (by kernel_rfl) (by kernel_rfl) (by kernel_rfl) h

theorem e_bits_Len64_2 {y : AV × Mem} (h : (
  some (I (w64 (0 + w64 (↑(2 % 2 ^ 8) : Int))), [])) = some y) : cw f_bits_Len64 [.v (.int .u64 2)] [] = some y :=
  callw_tree R_bits_Len64 zT [] (by kernel_rfl) (by kernel_rfl) (by kernel_rfl) (by kernel_rfl) (by kernel_rfl) h

theorem e_bits_Len64_3 {y : AV × Mem} (h : (
  some (I (w64 (0 + w64 (↑(2 % 2 ^ 8) : Int))), [])) = some y) : cw f_bits_Len64 [.v (.int .u64 3)] [] = some y :=
  callw_tree R_bits_Len64 zT [] (by kernel_rfl) (by kernel_rfl) (by kernel_rfl) (by kernel_rfl) (by kernel_rfl) h

theorem e_bits_Len64_4 {y : AV × Mem} (h : (
  some (I (w64 (0 + w64 (↑(3 % 2 ^ 8) : Int))), [])) = some y) : cw f_bits_Len64 [.v (.int .u64 4)] [] = some y :=
  callw_tree R_bits_Len64 zT [] (by kernel_rfl) (by kernel_rfl) (by kernel_rfl) (by kernel_rfl) (by kernel_rfl) h

theorem e_bits_Len64_5 {y : AV × Mem} (h : (
  some (I (w64 (0 + w64 (↑(3 % 2 ^ 8) : Int))), [])) = some y) : cw f_bits_Len64 [.v (.int .u64 5)] [] = some y :=
  callw_tree R_bits_Len64 zT [] (by kernel_rfl) (by kernel_rfl) (by kernel_rfl) (by kernel_rfl) (by kernel_rfl) h

theorem e_bits_Len64_6 {y : AV × Mem} (h : (
  some (I (w64 (0 + w64 (↑(3 % 2 ^ 8) : Int))), [])) = some y) : cw f_bits_Len64 [.v (.int .u64 6)] [] = some y :=
  callw_tree R_bits_Len64 zT [] (by kernel_rfl) (by kernel_rfl) (by kernel_rfl) (by kernel_rfl) (by kernel_rfl) h

theorem e_bits_Len64_7 {y : AV × Mem} (h : (
  some (I (w64 (0 + w64 (↑(3 % 2 ^ 8) : Int))), [])) = some y) : cw f_bits_Len64 [.v (.int .u64 7)] [] = some y :=
  callw_tree R_bits_Len64 zT [] (by kernel_rfl) (by kernel_rfl) (by kernel_rfl) (by kernel_rfl) (by kernel_rfl) h

theorem e_bits_Len64_8 {y : AV × Mem} (h : (
  some (I (w64 (0 + w64 (↑(4 % 2 ^ 8) : Int))), [])) = some y) : cw f_bits_Len64 [.v (.int .u64 8)] [] = some y :=
  callw_tree R_bits_Len64 zT [] (by kernel_rfl) (by kernel_rfl) (by kernel_rfl) (by kernel_rfl) (by kernel_rfl) h

theorem e_bits_Len64_9 {y : AV × Mem} (h : (
  some (I (w64 (0 + w64 (↑(4 % 2 ^ 8) : Int))), [])) = some y) : cw f_bits_Len64 [.v (.int .u64 9)] [] = some y :=
  callw_tree R_bits_Len64 zT [] (by kernel_rfl) (by kernel_rfl) (by kernel_rfl) (by kernel_rfl) (by kernel_rfl) h

theorem e_bits_Len64_10 {y : AV × Mem} (h : (
  some (I (w64 (0 + w64 (↑(4 % 2 ^ 8) : Int))), [])) = some y) : cw f_bits_Len64 [.v (.int .u64 10)] [] = some y :=
  callw_tree R_bits_Len64 zT [] (by kernel_rfl) (by kernel_rfl) (by kernel_rfl) (by kernel_rfl) (by kernel_rfl) h

theorem e_bits_Len64_11 {y : AV × Mem} (h : (
  some (I (w64 (0 + w64 (↑(4 % 2 ^ 8) : Int))), [])) = some y) : cw f_bits_Len64 [.v (.int .u64 11)] [] = some y :=
  callw_tree R_bits_Len64 zT [] (by kernel_rfl) (by kernel_rfl) (by kernel_rfl) (by kernel_rfl) (by kernel_rfl) h

theorem e_bits_Len64_12 {y : AV × Mem} (h : (
  some (I (w64 (0 + w64 (↑(4 % 2 ^ 8) : Int))), [])) = some y) : cw f_bits_Len64 [.v (.int .u64 12)] [] = some y :=
  callw_tree R_bits_Len64 zT [] (by kernel_rfl) (by kernel_rfl) (by kernel_rfl) (by kernel_rfl) (by kernel_rfl) h

theorem e_bits_Len64_13 {y : AV × Mem} (h : (
  some (I (w64 (0 + w64 (↑(4 % 2 ^ 8) : Int))), [])) = some y) : cw f_bits_Len64 [.v (.int .u64 13)] [] = some y :=
  callw_tree R_bits_Len64 zT [] (by kernel_rfl) (by kernel_rfl) (by kernel_rfl) (by kernel_rfl) (by kernel_rfl) h

theorem e_bits_Len64_14 {y : AV × Mem} (h : (
  some (I (w64 (0 + w64 (↑(4 % 2 ^ 8) : Int))), [])) = some y) : cw f_bits_Len64 [.v (.int .u64 14)] [] = some y :=
  callw_tree R_bits_Len64 zT [] (by kernel_rfl) (by kernel_rfl) (by kernel_rfl) (by kernel_rfl) (by kernel_rfl) h

theorem e_bits_Len64_15 {y : AV × Mem} (h : (
  some (I (w64 (0 + w64 (↑(4 % 2 ^ 8) : Int))), [])) = some y) : cw f_bits_Len64 [.v (.int .u64 15)] [] = some y :=
  callw_tree R_bits_Len64 zT [] (by kernel_rfl) (by kernel_rfl) (by kernel_rfl) (by kernel_rfl) (by kernel_rfl) h

theorem e_bits_Len64_16 {y : AV × Mem} (h : (
  some (I (w64 (0 + w64 (↑(5 % 2 ^ 8) : Int))), [])) = some y) : cw f_bits_Len64 [.v (.int .u64 16)] [] = some y :=
  callw_tree R_bits_Len64 zT [] (by kernel_rfl) (by kernel_rfl) (by kernel_rfl) (by kernel_rfl) (by kernel_rfl) h

theorem e_bits_Len64_17 {y : AV × Mem} (h : (
  some (I (w64 (0 + w64 (↑(5 % 2 ^ 8) : Int))), [])) = some y) : cw f_bits_Len64 [.v (.int .u64 17)] [] = some y :=
  callw_tree R_bits_Len64 zT [] (by kernel_rfl) (by kernel_rfl) (by kernel_rfl) (by kernel_rfl) (by kernel_rfl) h

theorem e_bits_Len64_18 {y : AV × Mem} (h : (
  some (I (w64 (0 + w64 (↑(5 % 2 ^ 8) : Int))), [])) = some y) : cw f_bits_Len64 [.v (.int .u64 18)] [] = some y :=
  callw_tree R_bits_Len64 zT [] (by kernel_rfl) (by kernel_rfl) (by kernel_rfl) (by kernel_rfl) (by kernel_rfl) h

theorem e_bits_Len64_19 {y : AV × Mem} (h : (
  some (I (w64 (0 + w64 (↑(5 % 2 ^ 8) : Int))), [])) = some y) : cw f_bits_Len64 [.v (.int .u64 19)] [] = some y :=
  callw_tree R_bits_Len64 zT [] (by kernel_rfl) (by kernel_rfl) (by kernel_rfl) (by kernel_rfl) (by kernel_rfl) h

theorem e_bits_Len64_20 {y : AV × Mem} (h : (
  some (I (w64 (0 + w64 (↑(5 % 2 ^ 8) : Int))), [])) = some y) : cw f_bits_Len64 [.v (.int .u64 20)] [] = some y :=
  callw_tree R_bits_Len64 zT [] (by kernel_rfl) (by kernel_rfl) (by kernel_rfl) (by kernel_rfl) (by kernel_rfl) h

theorem e_bits_Len64_21 {y : AV × Mem} (h : (
  some (I (w64 (0 + w64 (↑(5 % 2 ^ 8) : Int))), [])) = some y) : cw f_bits_Len64 [.v (.int .u64 21)] [] = some y :=
  callw_tree R_bits_Len64 zT [] (by kernel_rfl) (by kernel_rfl) (by kernel_rfl) (by kernel_rfl) (by kernel_rfl) h

theorem e_bits_Len64_22 {y : AV × Mem} (h : (
  some (I (w64 (0 + w64 (↑(5 % 2 ^ 8) : Int))), [])) = some y) : cw f_bits_Len64 [.v (.int .u64 22)] [] = some y :=
  callw_tree R_bits_Len64 zT [] (by kernel_rfl) (by kernel_rfl) (by kernel_rfl) (by kernel_rfl) (by kernel_rfl) h

theorem e_bits_Len64_23 {y : AV × Mem} (h : (
  some (I (w64 (0 + w64 (↑(5 % 2 ^ 8) : Int))), [])) = some y) : cw f_bits_Len64 [.v (.int .u64 23)] [] = some y :=
  callw_tree R_bits_Len64 zT [] (by kernel_rfl) (by kernel_rfl) (by kernel_rfl) (by kernel_rfl) (by kernel_rfl) h

theorem e_bits_Len64_24 {y : AV × Mem} (h : (
  some (I (w64 (0 + w64 (↑(5 % 2 ^ 8) : Int))), [])) = some y) : cw f_bits_Len64 [.v (.int .u64 24)] [] = some y :=
  callw_tree R_bits_Len64 zT [] (by kernel_rfl) (by kernel_rfl) (by kernel_rfl) (by kernel_rfl) (by kernel_rfl) h

theorem e_bits_Len64_25 {y : AV × Mem} (h : (
  some (I (w64 (0 + w64 (↑(5 % 2 ^ 8) : Int))), [])) = some y) : cw f_bits_Len64 [.v (.int .u64 25)] [] = some y :=
  callw_tree R_bits_Len64 zT [] (by kernel_rfl) (by kernel_rfl) (by kernel_rfl) (by kernel_rfl) (by kernel_rfl) h

theorem e_bits_Len64_26 {y : AV × Mem} (h : (
  some (I (w64 (0 + w64 (↑(5 % 2 ^ 8) : Int))), [])) = some y) : cw f_bits_Len64 [.v (.int .u64 26)] [] = some y :=
  callw_tree R_bits_Len64 zT [] (by kernel_rfl) (by kernel_rfl) (by kernel_rfl) (by kernel_rfl) (by kernel_rfl) h

theorem e_bits_Len64_27 {y : AV × Mem} (h : (
  some (I (w64 (0 + w64 (↑(5 % 2 ^ 8) : Int))), [])) = some y) : cw f_bits_Len64 [.v (.int .u64 27)] [] = some y :=
  callw_tree R_bits_Len64 zT [] (by kernel_rfl) (by kernel_rfl) (by kernel_rfl) (by kernel_rfl) (by kernel_rfl) h

theorem e_bits_Len64_28 {y : AV × Mem} (h : (
  some (I (w64 (0 + w64 (↑(5 % 2 ^ 8) : Int))), [])) = some y) : cw f_bits_Len64 [.v (.int .u64 28)] [] = some y :=
  callw_tree R_bits_Len64 zT [] (by kernel_rfl) (by kernel_rfl) (by kernel_rfl) (by kernel_rfl) (by kernel_rfl) h

theorem e_bits_Len64_29 {y : AV × Mem} (h : (
  some (I (w64 (0 + w64 (↑(5 % 2 ^ 8) : Int))), [])) = some y) : cw f_bits_Len64 [.v (.int .u64 29)] [] = some y :=
  callw_tree R_bits_Len64 zT [] (by kernel_rfl) (by kernel_rfl) (by kernel_rfl) (by kernel_rfl) (by kernel_rfl) h

theorem e_bits_Len64_30 {y : AV × Mem} (h : (
  some (I (w64 (0 + w64 (↑(5 % 2 ^ 8) : Int))), [])) = some y) : cw f_bits_Len64 [.v (.int .u64 30)] [] = some y :=
  callw_tree R_bits_Len64 zT [] (by kernel_rfl) (by kernel_rfl) (by kernel_rfl) (by kernel_rfl) (by kernel_rfl) h

theorem e_bits_Len64_31 {y : AV × Mem} (h : (
  some (I (w64 (0 + w64 (↑(5 % 2 ^ 8) : Int))), [])) = some y) : cw f_bits_Len64 [.v (.int .u64 31)] [] = some y :=
  callw_tree R_bits_Len64 zT [] (by kernel_rfl) (by kernel_rfl) (by kernel_rfl) (by kernel_rfl) (by kernel_rfl) h

theorem e_bits_Len64_32 {y : AV × Mem} (h : (
  some (I (w64 (0 + w64 (↑(6 % 2 ^ 8) : Int))), [])) = some y) : cw f_bits_Len64 [.v (.int .u64 32)] [] = some y :=
  callw_tree R_bits_Len64 zT [] (by kernel_rfl) (by kernel_rfl) (by kernel_rfl) (by kernel_rfl) (by kernel_rfl) h

theorem e_bits_Len64_33 {y : AV × Mem} (h : (
  some (I (w64 (0 + w64 (↑(6 % 2 ^ 8) : Int))), [])) = some y) : cw f_bits_Len64 [.v (.int .u64 33)] [] = some y :=
  callw_tree R_bits_Len64 zT [] (by kernel_rfl) (by kernel_rfl) (by kernel_rfl) (by kernel_rfl) (by kernel_rfl) h

theorem e_bits_Len64_34 {y : AV × Mem} (h : (
  some (I (w64 (0 + w64 (↑(6 % 2 ^ 8) : Int))), [])) = some y) : cw f_bits_Len64 [.v (.int .u64 34)] [] = some y :=
  callw_tree R_bits_Len64 zT [] (by kernel_rfl) (by kernel_rfl) (by kernel_rfl) (by kernel_rfl) (by kernel_rfl) h

theorem e_bits_Len64_35 {y : AV × Mem} (h : (
  some (I (w64 (0 + w64 (↑(6 % 2 ^ 8) : Int))), [])) = some y) : cw f_bits_Len64 [.v (.int .u64 35)] [] = some y :=
  callw_tree R_bits_Len64 zT [] (by kernel_rfl) (by kernel_rfl) (by kernel_rfl) (by kernel_rfl) (by kernel_rfl) h

theorem e_bits_Len64_36 {y : AV × Mem} (h : (
  some (I (w64 (0 + w64 (↑(6 % 2 ^ 8) : Int))), [])) = some y) : cw f_bits_Len64 [.v (.int .u64 36)] [] = some y :=
  callw_tree R_bits_Len64 zT [] (by kernel_rfl) (by kernel_rfl) (by kernel_rfl) (by kernel_rfl) (by kernel_rfl) h

theorem e_bits_Len64_37 {y : AV × Mem} (h : (
  some (I (w64 (0 + w64 (↑(6 % 2 ^ 8) : Int))), [])) = some y) : cw f_bits_Len64 [.v (.int .u64 37)] [] = some y :=
  callw_tree R_bits_Len64 zT [] (by kernel_rfl) (by kernel_rfl) (by kernel_rfl) (by kernel_rfl) (by kernel_rfl) h

theorem e_bits_Len64_38 {y : AV × Mem} (h : (
  some (I (w64 (0 + w64 (↑(6 % 2 ^ 8) : Int))), [])) = some y) : cw f_bits_Len64 [.v (.int .u64 38)] [] = some y :=
  callw_tree R_bits_Len64 zT [] (by kernel_rfl) (by kernel_rfl) (by kernel_rfl) (by kernel_rfl) (by kernel_rfl) h

theorem e_bits_Len64_39 {y : AV × Mem} (h : (
  some (I (w64 (0 + w64 (↑(6 % 2 ^ 8) : Int))), [])) = some y) : cw f_bits_Len64 [.v (.int .u64 39)] [] = some y :=
  callw_tree R_bits_Len64 zT [] (by kernel_rfl) (by kernel_rfl) (by kernel_rfl) (by kernel_rfl) (by kernel_rfl) h

theorem e_bits_Len64_40 {y : AV × Mem} (h : (
  some (I (w64 (0 + w64 (↑(6 % 2 ^ 8) : Int))), [])) = some y) : cw f_bits_Len64 [.v (.int .u64 40)] [] = some y :=
  callw_tree R_bits_Len64 zT [] (by kernel_rfl) (by kernel_rfl) (by kernel_rfl) (by kernel_rfl) (by kernel_rfl) h

theorem e_bits_Len64_41 {y : AV × Mem} (h : (
  some (I (w64 (0 + w64 (↑(6 % 2 ^ 8) : Int))), [])) = some y) : cw f_bits_Len64 [.v (.int .u64 41)] [] = some y :=
  callw_tree R_bits_Len64 zT [] (by kernel_rfl) (by kernel_rfl) (by kernel_rfl) (by kernel_rfl) (by kernel_rfl) h

theorem e_bits_Len64_42 {y : AV × Mem} (h : (
  some (I (w64 (0 + w64 (↑(6 % 2 ^ 8) : Int))), [])) = some y) : cw f_bits_Len64 [.v (.int .u64 42)] [] = some y :=
  callw_tree R_bits_Len64 zT [] (by kernel_rfl) (by kernel_rfl) (by kernel_rfl) (by kernel_rfl) (by kernel_rfl) h

theorem e_bits_Len64_43 {y : AV × Mem} (h : (
  some (I (w64 (0 + w64 (↑(6 % 2 ^ 8) : Int))), [])) = some y) : cw f_bits_Len64 [.v (.int .u64 43)] [] = some y :=
  callw_tree R_bits_Len64 zT [] (by kernel_rfl) (by kernel_rfl) (by kernel_rfl) (by kernel_rfl) (by kernel_rfl) h

theorem e_bits_Len64_44 {y : AV × Mem} (h : (
  some (I (w64 (0 + w64 (↑(6 % 2 ^ 8) : Int))), [])) = some y) : cw f_bits_Len64 [.v (.int .u64 44)] [] = some y :=
  callw_tree R_bits_Len64 zT [] (by kernel_rfl) (by kernel_rfl) (by kernel_rfl) (by kernel_rfl) (by kernel_rfl) h

theorem e_bits_Len64_45 {y : AV × Mem} (h : (
  some (I (w64 (0 + w64 (↑(6 % 2 ^ 8) : Int))), [])) = some y) : cw f_bits_Len64 [.v (.int .u64 45)] [] = some y :=
  callw_tree R_bits_Len64 zT [] (by kernel_rfl) (by kernel_rfl) (by kernel_rfl) (by kernel_rfl) (by kernel_rfl) h

theorem e_bits_Len64_46 {y : AV × Mem} (h : (
  some (I (w64 (0 + w64 (↑(6 % 2 ^ 8) : Int))), [])) = some y) : cw f_bits_Len64 [.v (.int .u64 46)] [] = some y :=
  callw_tree R_bits_Len64 zT [] (by kernel_rfl) (by kernel_rfl) (by kernel_rfl) (by kernel_rfl) (by kernel_rfl) h

theorem e_bits_Len64_47 {y : AV × Mem} (h : (
  some (I (w64 (0 + w64 (↑(6 % 2 ^ 8) : Int))), [])) = some y) : cw f_bits_Len64 [.v (.int .u64 47)] [] = some y :=
  callw_tree R_bits_Len64 zT [] (by kernel_rfl) (by kernel_rfl) (by kernel_rfl) (by kernel_rfl) (by kernel_rfl) h

theorem e_bits_Len64_48 {y : AV × Mem} (h : (
  some (I (w64 (0 + w64 (↑(6 % 2 ^ 8) : Int))), [])) = some y) : cw f_bits_Len64 [.v (.int .u64 48)] [] = some y :=
  callw_tree R_bits_Len64 zT [] (by kernel_rfl) (by kernel_rfl) (by kernel_rfl) (by kernel_rfl) (by kernel_rfl) h

theorem e_bits_Len64_49 {y : AV × Mem} (h : (
  some (I (w64 (0 + w64 (↑(6 % 2 ^ 8) : Int))), [])) = some y) : cw f_bits_Len64 [.v (.int .u64 49)] [] = some y :=
  callw_tree R_bits_Len64 zT [] (by kernel_rfl) (by kernel_rfl) (by kernel_rfl) (by kernel_rfl) (by kernel_rfl) h

theorem e_cmp_Compare_uint64 (a0 : Int) (a1 : Int) {y : AV × Mem} (h : (
  callD r_cmp_isNaN_uint64 (cw f_cmp_isNaN_uint64 [.v (.int .u64 a0)] []) fun (r0 : Bool) =>
  callD r_cmp_isNaN_uint64 (cw f_cmp_isNaN_uint64 [.v (.int .u64 a1)] []) fun (r1 : Bool) =>
  brn r0 (brn r1 (some (I 0, []))
   (some (I (-1), [])))
  (brn r1 (some (I 1, []))
   (brn (decide (a0 < a1)) (some (I (-1), []))
    (brn (decide (a1 < a0)) (some (I 1, []))
     (some (I 0, [])))))) = some y) : cw f_cmp_Compare_uint64 [.v (.int .u64 a0), .v (.int .u64 a1)] [] = some y :=
  callw_tree R_cmp_Compare_uint64 zT [] (by kernel_rfl) (by kernel_rfl) (by kernel_rfl) (by kernel_rfl) (by kernel_rfl) h

theorem e_ratio_wide_plus (a0 : GratioWide) (a1 : GratioWide) {y : AV × Mem} (h : (
  brn (Int.ofNat ((a0.lo.toNat + a1.lo.toNat + Int.toNat 0) / 2 ^ 64) == 0) (some (.agg (dGratioWide.enc (⟨Int.ofNat ((a0.hi.toNat + a1.hi.toNat + Int.toNat 0) % 2 ^ 64), Int.ofNat ((a0.lo.toNat + a1.lo.toNat + Int.toNat 0) % 2 ^ 64)⟩)), []))
  (brn (Int.ofNat ((a0.lo.toNat + a1.lo.toNat + Int.toNat 0) / 2 ^ 64) == 1) (some (.agg (dGratioWide.enc (⟨Int.ofNat ((a0.hi.toNat + a1.hi.toNat + Int.toNat 1) % 2 ^ 64), Int.ofNat ((a0.lo.toNat + a1.lo.toNat + Int.toNat 0) % 2 ^ 64)⟩)), []))
   (none))) = some y) : cw f_ratio_wide_plus [.agg (dGratioWide.enc a0), .agg (dGratioWide.enc a1)] [] = some y :=
  callw_tree R_ratio_wide_plus zT [] (by kernel_rfl) (by kernel_rfl) (by kernel_rfl) (by kernel_rfl) (by kernel_rfl) h

theorem e_ratio_wide_minus (a0 : GratioWide) (a1 : GratioWide) {y : AV × Mem} (h : (
  brn (Int.ofNat (if a0.lo.toNat < a1.lo.toNat + Int.toNat 0 then 1 else 0) == 0) (some (.agg (dGratioWide.enc (⟨Int.ofNat ((a0.hi.toNat + 2 ^ 64 - a1.hi.toNat - Int.toNat 0) % 2 ^ 64), Int.ofNat ((a0.lo.toNat + 2 ^ 64 - a1.lo.toNat - Int.toNat 0) % 2 ^ 64)⟩)), []))
  (brn (Int.ofNat (if a0.lo.toNat < a1.lo.toNat + Int.toNat 0 then 1 else 0) == 1) (some (.agg (dGratioWide.enc (⟨Int.ofNat ((a0.hi.toNat + 2 ^ 64 - a1.hi.toNat - Int.toNat 1) % 2 ^ 64), Int.ofNat ((a0.lo.toNat + 2 ^ 64 - a1.lo.toNat - Int.toNat 0) % 2 ^ 64)⟩)), []))
   (none))) = some y) : cw f_ratio_wide_minus [.agg (dGratioWide.enc a0), .agg (dGratioWide.enc a1)] [] = some y :=
  callw_tree R_ratio_wide_minus zT [] (by kernel_rfl) (by kernel_rfl) (by kernel_rfl) (by kernel_rfl) (by kernel_rfl) h

theorem e_bits_Rem64 (a0 : Int) (a1 : Int) (a2 : Int) {y : AV × Mem} (h : (
  chk ((a2 : Int) ≠ 0) <|
  callD r_bits_Div64 (cw f_bits_Div64 [.v (.int .u64 (a0.tmod a2)), .v (.int .u64 a1), .v (.int .u64 a2)] []) fun (r0 : Int × Int) =>
  some (.v (.int .u64 r0.snd), [])) = some y) : cw f_bits_Rem64 [.v (.int .u64 a0), .v (.int .u64 a1), .v (.int .u64 a2)] [] = some y :=
  callw_tree R_bits_Rem64 zT [] (by kernel_rfl) (by kernel_rfl) (by kernel_rfl) (by kernel_rfl) (by kernel_rfl) h

theorem e_bits_Div64 (a1 : Int) (a2 : Int) {y : AV × Mem} (h : (
  brn (a2 == 0) (none)
  (brn (decide (a2 ≤ 0)) (none)
   (chk ((a2 : Int) ≠ 0) <|
    chk ((a2 : Int) ≠ 0) <|
    some (.tup [.v (.int .u64 (wu64 (a1.tdiv a2))), .v (.int .u64 (a1.tmod a2))], [])))) = some y) : cw f_bits_Div64 [.v (.int .u64 0), .v (.int .u64 a1), .v (.int .u64 a2)] [] = some y :=
  callw_tree R_bits_Div64 zT [] (by kernel_rfl) (by kernel_rfl) (by kernel_rfl) (by kernel_rfl) (by kernel_rfl) h

end Go.Proofs.Ytiienbfdcgipnaa
