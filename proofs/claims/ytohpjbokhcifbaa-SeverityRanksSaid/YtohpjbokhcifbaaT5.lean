/- What the functions compute, between two cut points: printed by a program, checked by the kernel. -/
import Derived.Test.YtohpjbokhcifbaaAnn
namespace Go.Proofs.Ytohpjbokhcifbaa
open Go.Ab
set_option maxRecDepth 100000
set_option linter.unusedVariables false

noncomputable def k_slices_partitionCmpFunc_int_1 (a0 : List Int) (a1 : Int) (a2 : Int) (a3 : Int) (s : List GRatio) (c0 : Int) (c1 : Int) (c2 : Int) (c3 : Int) (x4 : Int) : Option (AV × Mem) := pt R_slices_partitionCmpFunc_int 1 ⟨[(0, .row 1000 1 0 ((List.map dI_i64.enc a0).length)), (1, I a1), (4, .fn f_severity_Rank_1 [.fa 2 (List.map dGRatio.enc s)]), (12, I x4), (13, I (w64 (a2 - 1)))], [(1000, ⟨1, ty_i64_2, List.set (List.set (List.map dI_i64.enc a0) (0 + a1.toNat) (dI_i64.enc c0)) (0 + a3.toNat) (dI_i64.enc c1), false⟩)]⟩

noncomputable def k_slices_partitionCmpFunc_int_2 (a0 : List Int) (a1 : Int) (a2 : Int) (a3 : Int) (s : List GRatio) (c0 : Int) (c1 : Int) (c2 : Int) (c3 : Int) (x4 : Int) : Option (AV × Mem) := pt R_slices_partitionCmpFunc_int 2 ⟨[(0, .row 1000 1 0 ((List.map dI_i64.enc a0).length)), (1, I a1), (4, .fn f_severity_Rank_1 [.fa 2 (List.map dGRatio.enc s)]), (12, I x4), (13, I (w64 (a2 - 1))), (47, B false)], [(1000, ⟨1, ty_i64_2, List.set (List.set (List.map dI_i64.enc a0) (0 + a1.toNat) (dI_i64.enc c0)) (0 + a3.toNat) (dI_i64.enc c1), false⟩)]⟩

noncomputable def k_slices_partitionCmpFunc_int_2v1 (a0 : List Int) (a1 : Int) (a2 : Int) (a3 : Int) (s : List GRatio) (c0 : Int) (c1 : Int) (c2 : Int) (c3 : Int) (x4 : Int) (x11 : Int) : Option (AV × Mem) := pt R_slices_partitionCmpFunc_int 2 ⟨[(0, .row 1000 1 0 ((List.map dI_i64.enc a0).length)), (1, I a1), (4, .fn f_severity_Rank_1 [.fa 2 (List.map dGRatio.enc s)]), (12, I x4), (13, I x11)], [(1000, ⟨1, ty_i64_2, List.set (List.set (List.map dI_i64.enc a0) (0 + a1.toNat) (dI_i64.enc c0)) (0 + a3.toNat) (dI_i64.enc c1), false⟩)]⟩

noncomputable def k_slices_partitionCmpFunc_int_1007 (a0 : List Int) (a1 : Int) (a2 : Int) (a3 : Int) (s : List GRatio) (c0 : Int) (c1 : Int) (c2 : Int) (c3 : Int) (x4 : Int) (x12 : Int) : Option (AV × Mem) := pt R_slices_partitionCmpFunc_int 1007 ⟨[(0, .row 1000 1 0 ((List.map dI_i64.enc a0).length)), (1, I a1), (4, .fn f_severity_Rank_1 [.fa 2 (List.map dGRatio.enc s)]), (12, I x4), (13, I x12), (66, B false)], [(1000, ⟨1, ty_i64_2, List.set (List.set (List.map dI_i64.enc a0) (0 + a1.toNat) (dI_i64.enc c0)) (0 + a3.toNat) (dI_i64.enc c1), false⟩)]⟩

noncomputable def k_slices_partitionCmpFunc_int_3 (a0 : List Int) (a1 : Int) (s : List GRatio) (x24 : List (List AV)) (x25 : Int) (x26 : Int) : Option (AV × Mem) := pt R_slices_partitionCmpFunc_int 3 ⟨[(0, .row 1000 1 0 ((List.map dI_i64.enc a0).length)), (1, I a1), (4, .fn f_severity_Rank_1 [.fa 2 (List.map dGRatio.enc s)]), (12, I x25), (13, I x26)], [(1000, ⟨1, ty_i64_2, x24, false⟩)]⟩

noncomputable def k_slices_partitionCmpFunc_int_4 (a0 : List Int) (a1 : Int) (s : List GRatio) (x24 : List (List AV)) (x26 : Int) (x27 : Int) : Option (AV × Mem) := pt R_slices_partitionCmpFunc_int 4 ⟨[(0, .row 1000 1 0 ((List.map dI_i64.enc a0).length)), (1, I a1), (4, .fn f_severity_Rank_1 [.fa 2 (List.map dGRatio.enc s)]), (12, I x27), (13, I x26)], [(1000, ⟨1, ty_i64_2, x24, false⟩)]⟩

noncomputable def k_slices_partitionCmpFunc_int_5 (a0 : List Int) (a1 : Int) (s : List GRatio) (x24 : List (List AV)) (x26 : Int) (x27 : Int) : Option (AV × Mem) := pt R_slices_partitionCmpFunc_int 5 ⟨[(0, .row 1000 1 0 ((List.map dI_i64.enc a0).length)), (1, I a1), (4, .fn f_severity_Rank_1 [.fa 2 (List.map dGRatio.enc s)]), (12, I x27), (13, I x26), (120, B false)], [(1000, ⟨1, ty_i64_2, x24, false⟩)]⟩

noncomputable def k_slices_partitionCmpFunc_int_5v1 (a0 : List Int) (a1 : Int) (s : List GRatio) (x24 : List (List AV)) (x27 : Int) (x34 : Int) : Option (AV × Mem) := pt R_slices_partitionCmpFunc_int 5 ⟨[(0, .row 1000 1 0 ((List.map dI_i64.enc a0).length)), (1, I a1), (4, .fn f_severity_Rank_1 [.fa 2 (List.map dGRatio.enc s)]), (12, I x27), (13, I x34)], [(1000, ⟨1, ty_i64_2, x24, false⟩)]⟩

noncomputable def k_slices_partitionCmpFunc_int_1017 (a0 : List Int) (a1 : Int) (s : List GRatio) (x24 : List (List AV)) (x27 : Int) (x35 : Int) : Option (AV × Mem) := pt R_slices_partitionCmpFunc_int 1017 ⟨[(0, .row 1000 1 0 ((List.map dI_i64.enc a0).length)), (1, I a1), (4, .fn f_severity_Rank_1 [.fa 2 (List.map dGRatio.enc s)]), (12, I x27), (13, I x35), (139, B false)], [(1000, ⟨1, ty_i64_2, x24, false⟩)]⟩

theorem t_slices_partitionCmpFunc_int_1 (a0 : List Int) (a1 : Int) (a2 : Int) (a3 : Int) (s : List GRatio) (c0 : Int) (c1 : Int) (c2 : Int) (c3 : Int) (x4 : Int) {y : AV × Mem} (h : (
  brn (decide (x4 ≤ w64 (a2 - 1))) (chk ((0 : Int) ≤ x4) <|
   chk ((x4 : Int) < ((↑(List.map dI_i64.enc a0).length : Int))) <|
   elemD dI_i64 (List.set (List.set (List.map dI_i64.enc a0) (0 + a1.toNat) (dI_i64.enc c0)) (0 + a3.toNat) (dI_i64.enc c1)) (0 + x4.toNat) fun (c5 : Int) =>
   chk ((0 : Int) ≤ a1) <|
   chk ((a1 : Int) < ((↑(List.map dI_i64.enc a0).length : Int))) <|
   elemD dI_i64 (List.set (List.set (List.map dI_i64.enc a0) (0 + a1.toNat) (dI_i64.enc c0)) (0 + a3.toNat) (dI_i64.enc c1)) (0 + a1.toNat) fun (c6 : Int) =>
   callD r_severity_Rank_1 (cw f_severity_Rank_1 [I c5, I c6, .fa 2 (List.map dGRatio.enc s)] []) fun (r7 : Int) =>
   brn (decide (r7 < 0)) (k_slices_partitionCmpFunc_int_1 a0 a1 a2 a3 s c0 c1 c2 c3 (w64 (x4 + 1)))
   (k_slices_partitionCmpFunc_int_2 a0 a1 a2 a3 s c0 c1 c2 c3 x4))
  (k_slices_partitionCmpFunc_int_2 a0 a1 a2 a3 s c0 c1 c2 c3 x4)) = some y) : k_slices_partitionCmpFunc_int_1 a0 a1 a2 a3 s c0 c1 c2 c3 x4 = some y :=
  pt_of zT [17, 7] (by kernel_rfl) h

theorem t_slices_partitionCmpFunc_int_2 (a0 : List Int) (a1 : Int) (a2 : Int) (a3 : Int) (s : List GRatio) (c0 : Int) (c1 : Int) (c2 : Int) (c3 : Int) (x4 : Int) {y : AV × Mem} (h : (
  brn (decide (x4 ≤ w64 (a2 - 1))) (chk ((0 : Int) ≤ (w64 (a2 - 1))) <|
   chk ((w64 (a2 - 1) : Int) < ((↑(List.map dI_i64.enc a0).length : Int))) <|
   elemD dI_i64 (List.set (List.set (List.map dI_i64.enc a0) (0 + a1.toNat) (dI_i64.enc c0)) (0 + a3.toNat) (dI_i64.enc c1)) (0 + (w64 (a2 - 1)).toNat) fun (c8 : Int) =>
   chk ((0 : Int) ≤ a1) <|
   chk ((a1 : Int) < ((↑(List.map dI_i64.enc a0).length : Int))) <|
   elemD dI_i64 (List.set (List.set (List.map dI_i64.enc a0) (0 + a1.toNat) (dI_i64.enc c0)) (0 + a3.toNat) (dI_i64.enc c1)) (0 + a1.toNat) fun (c9 : Int) =>
   callD r_severity_Rank_1 (cw f_severity_Rank_1 [I c8, I c9, .fa 2 (List.map dGRatio.enc s)] []) fun (r10 : Int) =>
   brn (!decide (r10 < 0)) (k_slices_partitionCmpFunc_int_2v1 a0 a1 a2 a3 s c0 c1 c2 c3 x4 (w64 (w64 (a2 - 1) - 1)))
   (k_slices_partitionCmpFunc_int_1007 a0 a1 a2 a3 s c0 c1 c2 c3 x4 (w64 (a2 - 1))))
  (k_slices_partitionCmpFunc_int_1007 a0 a1 a2 a3 s c0 c1 c2 c3 x4 (w64 (a2 - 1)))) = some y) : k_slices_partitionCmpFunc_int_2 a0 a1 a2 a3 s c0 c1 c2 c3 x4 = some y :=
  pt_of zT [17, 7] (by kernel_rfl) h

theorem t_slices_partitionCmpFunc_int_2v1 (a0 : List Int) (a1 : Int) (a2 : Int) (a3 : Int) (s : List GRatio) (c0 : Int) (c1 : Int) (c2 : Int) (c3 : Int) (x4 : Int) (x11 : Int) {y : AV × Mem} (h : (
  brn (decide (x4 ≤ x11)) (chk ((0 : Int) ≤ x11) <|
   chk ((x11 : Int) < ((↑(List.map dI_i64.enc a0).length : Int))) <|
   elemD dI_i64 (List.set (List.set (List.map dI_i64.enc a0) (0 + a1.toNat) (dI_i64.enc c0)) (0 + a3.toNat) (dI_i64.enc c1)) (0 + x11.toNat) fun (c13 : Int) =>
   chk ((0 : Int) ≤ a1) <|
   chk ((a1 : Int) < ((↑(List.map dI_i64.enc a0).length : Int))) <|
   elemD dI_i64 (List.set (List.set (List.map dI_i64.enc a0) (0 + a1.toNat) (dI_i64.enc c0)) (0 + a3.toNat) (dI_i64.enc c1)) (0 + a1.toNat) fun (c14 : Int) =>
   callD r_severity_Rank_1 (cw f_severity_Rank_1 [I c13, I c14, .fa 2 (List.map dGRatio.enc s)] []) fun (r15 : Int) =>
   brn (!decide (r15 < 0)) (k_slices_partitionCmpFunc_int_2v1 a0 a1 a2 a3 s c0 c1 c2 c3 x4 (w64 (x11 - 1)))
   (k_slices_partitionCmpFunc_int_1007 a0 a1 a2 a3 s c0 c1 c2 c3 x4 x11))
  (k_slices_partitionCmpFunc_int_1007 a0 a1 a2 a3 s c0 c1 c2 c3 x4 x11)) = some y) : k_slices_partitionCmpFunc_int_2v1 a0 a1 a2 a3 s c0 c1 c2 c3 x4 x11 = some y :=
  pt_of zT [17, 7] (by kernel_rfl) h

theorem t_slices_partitionCmpFunc_int_1007 (a0 : List Int) (a1 : Int) (a2 : Int) (a3 : Int) (s : List GRatio) (c0 : Int) (c1 : Int) (c2 : Int) (c3 : Int) (x4 : Int) (x12 : Int) {y : AV × Mem} (h : (
  brn (decide (x12 < x4)) (chk ((0 : Int) ≤ a1) <|
   chk ((a1 : Int) < ((↑(List.map dI_i64.enc a0).length : Int))) <|
   elemD dI_i64 (List.set (List.set (List.map dI_i64.enc a0) (0 + a1.toNat) (dI_i64.enc c0)) (0 + a3.toNat) (dI_i64.enc c1)) (0 + a1.toNat) fun (c16 : Int) =>
   chk ((0 : Int) ≤ x12) <|
   chk ((x12 : Int) < ((↑(List.map dI_i64.enc a0).length : Int))) <|
   elemD dI_i64 (List.set (List.set (List.map dI_i64.enc a0) (0 + a1.toNat) (dI_i64.enc c0)) (0 + a3.toNat) (dI_i64.enc c1)) (0 + x12.toNat) fun (c17 : Int) =>
   chk ((0 : Int) ≤ x12) <|
   chk ((x12 : Int) < ((↑(List.map dI_i64.enc a0).length : Int))) <|
   elemD dI_i64 (List.set (List.set (List.map dI_i64.enc a0) (0 + a1.toNat) (dI_i64.enc c0)) (0 + a3.toNat) (dI_i64.enc c1)) (0 + x12.toNat) fun (c18 : Int) =>
   chk ((0 : Int) ≤ a1) <|
   chk ((a1 : Int) < ((↑(List.map dI_i64.enc a0).length : Int))) <|
   elemD dI_i64 (List.set (List.set (List.set (List.map dI_i64.enc a0) (0 + a1.toNat) (dI_i64.enc c0)) (0 + a3.toNat) (dI_i64.enc c1)) (0 + x12.toNat) (dI_i64.enc c16)) (0 + a1.toNat) fun (c19 : Int) =>
   some (.tup [I x12, B true], [(1000, ⟨1, ty_i64_2, List.set (List.set (List.set (List.set (List.map dI_i64.enc a0) (0 + a1.toNat) (dI_i64.enc c0)) (0 + a3.toNat) (dI_i64.enc c1)) (0 + x12.toNat) (dI_i64.enc c16)) (0 + a1.toNat) (dI_i64.enc c17), false⟩)]))
  (chk ((0 : Int) ≤ x12) <|
   chk ((x12 : Int) < ((↑(List.map dI_i64.enc a0).length : Int))) <|
   elemD dI_i64 (List.set (List.set (List.map dI_i64.enc a0) (0 + a1.toNat) (dI_i64.enc c0)) (0 + a3.toNat) (dI_i64.enc c1)) (0 + x12.toNat) fun (c20 : Int) =>
   chk ((0 : Int) ≤ x4) <|
   chk ((x4 : Int) < ((↑(List.map dI_i64.enc a0).length : Int))) <|
   elemD dI_i64 (List.set (List.set (List.map dI_i64.enc a0) (0 + a1.toNat) (dI_i64.enc c0)) (0 + a3.toNat) (dI_i64.enc c1)) (0 + x4.toNat) fun (c21 : Int) =>
   chk ((0 : Int) ≤ x4) <|
   chk ((x4 : Int) < ((↑(List.map dI_i64.enc a0).length : Int))) <|
   elemD dI_i64 (List.set (List.set (List.map dI_i64.enc a0) (0 + a1.toNat) (dI_i64.enc c0)) (0 + a3.toNat) (dI_i64.enc c1)) (0 + x4.toNat) fun (c22 : Int) =>
   chk ((0 : Int) ≤ x12) <|
   chk ((x12 : Int) < ((↑(List.map dI_i64.enc a0).length : Int))) <|
   elemD dI_i64 (List.set (List.set (List.set (List.map dI_i64.enc a0) (0 + a1.toNat) (dI_i64.enc c0)) (0 + a3.toNat) (dI_i64.enc c1)) (0 + x4.toNat) (dI_i64.enc c20)) (0 + x12.toNat) fun (c23 : Int) =>
   k_slices_partitionCmpFunc_int_3 a0 a1 s (List.set (List.set (List.set (List.set (List.map dI_i64.enc a0) (0 + a1.toNat) (dI_i64.enc c0)) (0 + a3.toNat) (dI_i64.enc c1)) (0 + x4.toNat) (dI_i64.enc c20)) (0 + x12.toNat) (dI_i64.enc c21)) (w64 (x4 + 1)) (w64 (x12 - 1)))) = some y) : k_slices_partitionCmpFunc_int_1007 a0 a1 a2 a3 s c0 c1 c2 c3 x4 x12 = some y :=
  pt_of zT [17, 7] (by kernel_rfl) h

theorem t_slices_partitionCmpFunc_int_3 (a0 : List Int) (a1 : Int) (s : List GRatio) (x24 : List (List AV)) (x25 : Int) (x26 : Int) {y : AV × Mem} (h : (
  k_slices_partitionCmpFunc_int_4 a0 a1 s x24 x26 x25) = some y) : k_slices_partitionCmpFunc_int_3 a0 a1 s x24 x25 x26 = some y :=
  pt_of zT [17, 7] (by kernel_rfl) h

theorem t_slices_partitionCmpFunc_int_4 (a0 : List Int) (a1 : Int) (s : List GRatio) (x24 : List (List AV)) (x26 : Int) (x27 : Int) {y : AV × Mem} (h : (
  brn (decide (x27 ≤ x26)) (chk ((0 : Int) ≤ x27) <|
   chk ((x27 : Int) < ((↑(List.map dI_i64.enc a0).length : Int))) <|
   elemD dI_i64 x24 (0 + x27.toNat) fun (c28 : Int) =>
   chk ((0 : Int) ≤ a1) <|
   chk ((a1 : Int) < ((↑(List.map dI_i64.enc a0).length : Int))) <|
   elemD dI_i64 x24 (0 + a1.toNat) fun (c29 : Int) =>
   callD r_severity_Rank_1 (cw f_severity_Rank_1 [I c28, I c29, .fa 2 (List.map dGRatio.enc s)] []) fun (r30 : Int) =>
   brn (decide (r30 < 0)) (k_slices_partitionCmpFunc_int_4 a0 a1 s x24 x26 (w64 (x27 + 1)))
   (k_slices_partitionCmpFunc_int_5 a0 a1 s x24 x26 x27))
  (k_slices_partitionCmpFunc_int_5 a0 a1 s x24 x26 x27)) = some y) : k_slices_partitionCmpFunc_int_4 a0 a1 s x24 x26 x27 = some y :=
  pt_of zT [17, 7] (by kernel_rfl) h

theorem t_slices_partitionCmpFunc_int_5 (a0 : List Int) (a1 : Int) (s : List GRatio) (x24 : List (List AV)) (x26 : Int) (x27 : Int) {y : AV × Mem} (h : (
  brn (decide (x27 ≤ x26)) (chk ((0 : Int) ≤ x26) <|
   chk ((x26 : Int) < ((↑(List.map dI_i64.enc a0).length : Int))) <|
   elemD dI_i64 x24 (0 + x26.toNat) fun (c31 : Int) =>
   chk ((0 : Int) ≤ a1) <|
   chk ((a1 : Int) < ((↑(List.map dI_i64.enc a0).length : Int))) <|
   elemD dI_i64 x24 (0 + a1.toNat) fun (c32 : Int) =>
   callD r_severity_Rank_1 (cw f_severity_Rank_1 [I c31, I c32, .fa 2 (List.map dGRatio.enc s)] []) fun (r33 : Int) =>
   brn (!decide (r33 < 0)) (k_slices_partitionCmpFunc_int_5v1 a0 a1 s x24 x27 (w64 (x26 - 1)))
   (k_slices_partitionCmpFunc_int_1017 a0 a1 s x24 x27 x26))
  (k_slices_partitionCmpFunc_int_1017 a0 a1 s x24 x27 x26)) = some y) : k_slices_partitionCmpFunc_int_5 a0 a1 s x24 x26 x27 = some y :=
  pt_of zT [17, 7] (by kernel_rfl) h

theorem t_slices_partitionCmpFunc_int_5v1 (a0 : List Int) (a1 : Int) (s : List GRatio) (x24 : List (List AV)) (x27 : Int) (x34 : Int) {y : AV × Mem} (h : (
  brn (decide (x27 ≤ x34)) (chk ((0 : Int) ≤ x34) <|
   chk ((x34 : Int) < ((↑(List.map dI_i64.enc a0).length : Int))) <|
   elemD dI_i64 x24 (0 + x34.toNat) fun (c36 : Int) =>
   chk ((0 : Int) ≤ a1) <|
   chk ((a1 : Int) < ((↑(List.map dI_i64.enc a0).length : Int))) <|
   elemD dI_i64 x24 (0 + a1.toNat) fun (c37 : Int) =>
   callD r_severity_Rank_1 (cw f_severity_Rank_1 [I c36, I c37, .fa 2 (List.map dGRatio.enc s)] []) fun (r38 : Int) =>
   brn (!decide (r38 < 0)) (k_slices_partitionCmpFunc_int_5v1 a0 a1 s x24 x27 (w64 (x34 - 1)))
   (k_slices_partitionCmpFunc_int_1017 a0 a1 s x24 x27 x34))
  (k_slices_partitionCmpFunc_int_1017 a0 a1 s x24 x27 x34)) = some y) : k_slices_partitionCmpFunc_int_5v1 a0 a1 s x24 x27 x34 = some y :=
  pt_of zT [17, 7] (by kernel_rfl) h

theorem t_slices_partitionCmpFunc_int_1017 (a0 : List Int) (a1 : Int) (s : List GRatio) (x24 : List (List AV)) (x27 : Int) (x35 : Int) {y : AV × Mem} (h : (
  brn (decide (x35 < x27)) (chk ((0 : Int) ≤ a1) <|
   chk ((a1 : Int) < ((↑(List.map dI_i64.enc a0).length : Int))) <|
   elemD dI_i64 x24 (0 + a1.toNat) fun (c39 : Int) =>
   chk ((0 : Int) ≤ x35) <|
   chk ((x35 : Int) < ((↑(List.map dI_i64.enc a0).length : Int))) <|
   elemD dI_i64 x24 (0 + x35.toNat) fun (c40 : Int) =>
   chk ((0 : Int) ≤ x35) <|
   chk ((x35 : Int) < ((↑(List.map dI_i64.enc a0).length : Int))) <|
   elemD dI_i64 x24 (0 + x35.toNat) fun (c41 : Int) =>
   chk ((0 : Int) ≤ a1) <|
   chk ((a1 : Int) < ((↑(List.map dI_i64.enc a0).length : Int))) <|
   elemD dI_i64 (List.set x24 (0 + x35.toNat) (dI_i64.enc c39)) (0 + a1.toNat) fun (c42 : Int) =>
   some (.tup [I x35, B false], [(1000, ⟨1, ty_i64_2, List.set (List.set x24 (0 + x35.toNat) (dI_i64.enc c39)) (0 + a1.toNat) (dI_i64.enc c40), false⟩)]))
  (chk ((0 : Int) ≤ x35) <|
   chk ((x35 : Int) < ((↑(List.map dI_i64.enc a0).length : Int))) <|
   elemD dI_i64 x24 (0 + x35.toNat) fun (c43 : Int) =>
   chk ((0 : Int) ≤ x27) <|
   chk ((x27 : Int) < ((↑(List.map dI_i64.enc a0).length : Int))) <|
   elemD dI_i64 x24 (0 + x27.toNat) fun (c44 : Int) =>
   chk ((0 : Int) ≤ x27) <|
   chk ((x27 : Int) < ((↑(List.map dI_i64.enc a0).length : Int))) <|
   elemD dI_i64 x24 (0 + x27.toNat) fun (c45 : Int) =>
   chk ((0 : Int) ≤ x35) <|
   chk ((x35 : Int) < ((↑(List.map dI_i64.enc a0).length : Int))) <|
   elemD dI_i64 (List.set x24 (0 + x27.toNat) (dI_i64.enc c43)) (0 + x35.toNat) fun (c46 : Int) =>
   k_slices_partitionCmpFunc_int_3 a0 a1 s (List.set (List.set x24 (0 + x27.toNat) (dI_i64.enc c43)) (0 + x35.toNat) (dI_i64.enc c44)) (w64 (x27 + 1)) (w64 (x35 - 1)))) = some y) : k_slices_partitionCmpFunc_int_1017 a0 a1 s x24 x27 x35 = some y :=
  pt_of zT [17, 7] (by kernel_rfl) h

theorem e_slices_partitionCmpFunc_int (a0 : List Int) (a1 : Int) (a2 : Int) (a3 : Int) (s : List GRatio) {y : AV × Mem} (h : (
  chk ((0 : Int) ≤ a3) <|
  chk ((a3 : Int) < ((↑(List.map dI_i64.enc a0).length : Int))) <|
  elemD dI_i64 (List.map dI_i64.enc a0) (0 + a3.toNat) fun (c0 : Int) =>
  chk ((0 : Int) ≤ a1) <|
  chk ((a1 : Int) < ((↑(List.map dI_i64.enc a0).length : Int))) <|
  elemD dI_i64 (List.map dI_i64.enc a0) (0 + a1.toNat) fun (c1 : Int) =>
  chk ((0 : Int) ≤ a1) <|
  chk ((a1 : Int) < ((↑(List.map dI_i64.enc a0).length : Int))) <|
  elemD dI_i64 (List.map dI_i64.enc a0) (0 + a1.toNat) fun (c2 : Int) =>
  chk ((0 : Int) ≤ a3) <|
  chk ((a3 : Int) < ((↑(List.map dI_i64.enc a0).length : Int))) <|
  elemD dI_i64 (List.set (List.map dI_i64.enc a0) (0 + a1.toNat) (dI_i64.enc c0)) (0 + a3.toNat) fun (c3 : Int) =>
  k_slices_partitionCmpFunc_int_1 a0 a1 a2 a3 s c0 c1 c2 c3 (w64 (a1 + 1))) = some y) : cw f_slices_partitionCmpFunc_int [.row 1000 1 0 (List.length (List.map dI_i64.enc a0)), I a1, I a2, I a3, .fn f_severity_Rank_1 [.fa 2 (List.map dGRatio.enc s)]] [(1000, ⟨1, ty_i64_2, List.map dI_i64.enc a0, false⟩)] = some y :=
  callw_tree R_slices_partitionCmpFunc_int zT [17, 7] (by kernel_rfl) (by kernel_rfl) (by kernel_rfl) (by kernel_rfl) (by kernel_rfl) h

theorem e_bits_Len64_0 {y : AV × Mem} (h : (
  some (I (w64 (0 + w64 (↑(0 % 2 ^ 8) : Int))), [])) = some y) : cw f_bits_Len64 [.v (.int .u64 0)] [] = some y :=
  callw_tree R_bits_Len64 zT [] (by kernel_rfl) (by kernel_rfl) (by kernel_rfl) (by kernel_rfl) (by kernel_rfl) h

theorem e_bits_Len64_1 {y : AV × Mem} (h : (
  some (I (w64 (0 + w64 (↑(1 % 2 ^ 8) : Int))), [])) = some y) : cw f_bits_Len64 [.v (.int .u64 1)] [] = some y :=
  callw_tree R_bits_Len64 zT [] (by kernel_rfl) (by kernel_rfl) (by kernel_rfl) (by kernel_rfl) (by kernel_rfl) h

theorem e_bits_Len64_2 {y : AV × Mem} (h : (
  some (I (w64 (0 + w64 (↑(2 % 2 ^ 8) : Int))), [])) = some y) : cw f_bits_Len64 [.v (.int .u64 2)] [] = some y :=
  callw_tree R_bits_Len64 zT [] (by kernel_rfl) (by kernel_rfl) (by kernel_rfl) (by kernel_rfl) (by kernel_rfl) h

theorem e_bits_Len64_3 {y : AV × Mem} (h : (
  some (I (w64 (0 + w64 (↑(2 % 2 ^ 8) : Int))), [])) = some y) : cw f_bits_Len64 [.v (.int .u64 3)] [] = some y :=
  callw_tree R_bits_Len64 zT [] (by kernel_rfl) (by kernel_rfl) (by kernel_rfl) (by kernel_rfl) (by kernel_rfl) h

theorem e_bits_Len64_4 {y : AV × Mem} (h : (
  some (I (w64 (0 + w64 (↑(3 % 2 ^ 8) : Int))), [])) = some y) : cw f_bits_Len64 [.v (.int .u64 4)] [] = some y :=
  callw_tree R_bits_Len64 zT [] (by kernel_rfl) (by kernel_rfl) (by kernel_rfl) (by kernel_rfl) (by kernel_rfl) h

theorem e_bits_Len64_5 {y : AV × Mem} (h : (
  some (I (w64 (0 + w64 (↑(3 % 2 ^ 8) : Int))), [])) = some y) : cw f_bits_Len64 [.v (.int .u64 5)] [] = some y :=
  callw_tree R_bits_Len64 zT [] (by kernel_rfl) (by kernel_rfl) (by kernel_rfl) (by kernel_rfl) (by kernel_rfl) h

theorem e_bits_Len64_6 {y : AV × Mem} (h : (
  some (I (w64 (0 + w64 (↑(3 % 2 ^ 8) : Int))), [])) = some y) : cw f_bits_Len64 [.v (.int .u64 6)] [] = some y :=
  callw_tree R_bits_Len64 zT [] (by kernel_rfl) (by kernel_rfl) (by kernel_rfl) (by kernel_rfl) (by kernel_rfl) h

theorem e_bits_Len64_7 {y : AV × Mem} (h : (
  some (I (w64 (0 + w64 (↑(3 % 2 ^ 8) : Int))), [])) = some y) : cw f_bits_Len64 [.v (.int .u64 7)] [] = some y :=
  callw_tree R_bits_Len64 zT [] (by kernel_rfl) (by kernel_rfl) (by kernel_rfl) (by kernel_rfl) (by kernel_rfl) h

theorem e_bits_Len64_8 {y : AV × Mem} (h : (
  some (I (w64 (0 + w64 (↑(4 % 2 ^ 8) : Int))), [])) = some y) : cw f_bits_Len64 [.v (.int .u64 8)] [] = some y :=
  callw_tree R_bits_Len64 zT [] (by kernel_rfl) (by kernel_rfl) (by kernel_rfl) (by kernel_rfl) (by kernel_rfl) h

theorem e_bits_Len64_9 {y : AV × Mem} (h : (
  some (I (w64 (0 + w64 (↑(4 % 2 ^ 8) : Int))), [])) = some y) : cw f_bits_Len64 [.v (.int .u64 9)] [] = some y :=
  callw_tree R_bits_Len64 zT [] (by kernel_rfl) (by kernel_rfl) (by kernel_rfl) (by kernel_rfl) (by kernel_rfl) h

theorem e_bits_Len64_10 {y : AV × Mem} (h : (
  some (I (w64 (0 + w64 (↑(4 % 2 ^ 8) : Int))), [])) = some y) : cw f_bits_Len64 [.v (.int .u64 10)] [] = some y :=
  callw_tree R_bits_Len64 zT [] (by kernel_rfl) (by kernel_rfl) (by kernel_rfl) (by kernel_rfl) (by kernel_rfl) h

theorem e_bits_Len64_11 {y : AV × Mem} (h : (
  some (I (w64 (0 + w64 (↑(4 % 2 ^ 8) : Int))), [])) = some y) : cw f_bits_Len64 [.v (.int .u64 11)] [] = some y :=
  callw_tree R_bits_Len64 zT [] (by kernel_rfl) (by kernel_rfl) (by kernel_rfl) (by kernel_rfl) (by kernel_rfl) h

theorem e_bits_Len64_12 {y : AV × Mem} (h : (
  some (I (w64 (0 + w64 (↑(4 % 2 ^ 8) : Int))), [])) = some y) : cw f_bits_Len64 [.v (.int .u64 12)] [] = some y :=
  callw_tree R_bits_Len64 zT [] (by kernel_rfl) (by kernel_rfl) (by kernel_rfl) (by kernel_rfl) (by kernel_rfl) h

theorem e_bits_Len64_13 {y : AV × Mem} (h : (
  some (I (w64 (0 + w64 (↑(4 % 2 ^ 8) : Int))), [])) = some y) : cw f_bits_Len64 [.v (.int .u64 13)] [] = some y :=
  callw_tree R_bits_Len64 zT [] (by kernel_rfl) (by kernel_rfl) (by kernel_rfl) (by kernel_rfl) (by kernel_rfl) h

theorem e_bits_Len64_14 {y : AV × Mem} (h : (
  some (I (w64 (0 + w64 (↑(4 % 2 ^ 8) : Int))), [])) = some y) : cw f_bits_Len64 [.v (.int .u64 14)] [] = some y :=
  callw_tree R_bits_Len64 zT [] (by kernel_rfl) (by kernel_rfl) (by kernel_rfl) (by kernel_rfl) (by kernel_rfl) h

theorem e_bits_Len64_15 {y : AV × Mem} (h : (
  some (I (w64 (0 + w64 (↑(4 % 2 ^ 8) : Int))), [])) = some y) : cw f_bits_Len64 [.v (.int .u64 15)] [] = some y :=
  callw_tree R_bits_Len64 zT [] (by kernel_rfl) (by kernel_rfl) (by kernel_rfl) (by kernel_rfl) (by kernel_rfl) h

theorem e_bits_Len64_16 {y : AV × Mem} (h : (
  some (I (w64 (0 + w64 (↑(5 % 2 ^ 8) : Int))), [])) = some y) : cw f_bits_Len64 [.v (.int .u64 16)] [] = some y :=
  callw_tree R_bits_Len64 zT [] (by kernel_rfl) (by kernel_rfl) (by kernel_rfl) (by kernel_rfl) (by kernel_rfl) h

theorem e_bits_Len64_17 {y : AV × Mem} (h : (
  some (I (w64 (0 + w64 (↑(5 % 2 ^ 8) : Int))), [])) = some y) : cw f_bits_Len64 [.v (.int .u64 17)] [] = some y :=
  callw_tree R_bits_Len64 zT [] (by kernel_rfl) (by kernel_rfl) (by kernel_rfl) (by kernel_rfl) (by kernel_rfl) h

theorem e_bits_Len64_18 {y : AV × Mem} (h : (
  some (I (w64 (0 + w64 (↑(5 % 2 ^ 8) : Int))), [])) = some y) : cw f_bits_Len64 [.v (.int .u64 18)] [] = some y :=
  callw_tree R_bits_Len64 zT [] (by kernel_rfl) (by kernel_rfl) (by kernel_rfl) (by kernel_rfl) (by kernel_rfl) h

theorem e_bits_Len64_19 {y : AV × Mem} (h : (
  some (I (w64 (0 + w64 (↑(5 % 2 ^ 8) : Int))), [])) = some y) : cw f_bits_Len64 [.v (.int .u64 19)] [] = some y :=
  callw_tree R_bits_Len64 zT [] (by kernel_rfl) (by kernel_rfl) (by kernel_rfl) (by kernel_rfl) (by kernel_rfl) h

theorem e_bits_Len64_20 {y : AV × Mem} (h : (
  some (I (w64 (0 + w64 (↑(5 % 2 ^ 8) : Int))), [])) = some y) : cw f_bits_Len64 [.v (.int .u64 20)] [] = some y :=
  callw_tree R_bits_Len64 zT [] (by kernel_rfl) (by kernel_rfl) (by kernel_rfl) (by kernel_rfl) (by kernel_rfl) h

theorem e_bits_Len64_21 {y : AV × Mem} (h : (
  some (I (w64 (0 + w64 (↑(5 % 2 ^ 8) : Int))), [])) = some y) : cw f_bits_Len64 [.v (.int .u64 21)] [] = some y :=
  callw_tree R_bits_Len64 zT [] (by kernel_rfl) (by kernel_rfl) (by kernel_rfl) (by kernel_rfl) (by kernel_rfl) h

theorem e_bits_Len64_22 {y : AV × Mem} (h : (
  some (I (w64 (0 + w64 (↑(5 % 2 ^ 8) : Int))), [])) = some y) : cw f_bits_Len64 [.v (.int .u64 22)] [] = some y :=
  callw_tree R_bits_Len64 zT [] (by kernel_rfl) (by kernel_rfl) (by kernel_rfl) (by kernel_rfl) (by kernel_rfl) h

theorem e_bits_Len64_23 {y : AV × Mem} (h : (
  some (I (w64 (0 + w64 (↑(5 % 2 ^ 8) : Int))), [])) = some y) : cw f_bits_Len64 [.v (.int .u64 23)] [] = some y :=
  callw_tree R_bits_Len64 zT [] (by kernel_rfl) (by kernel_rfl) (by kernel_rfl) (by kernel_rfl) (by kernel_rfl) h

theorem e_bits_Len64_24 {y : AV × Mem} (h : (
  some (I (w64 (0 + w64 (↑(5 % 2 ^ 8) : Int))), [])) = some y) : cw f_bits_Len64 [.v (.int .u64 24)] [] = some y :=
  callw_tree R_bits_Len64 zT [] (by kernel_rfl) (by kernel_rfl) (by kernel_rfl) (by kernel_rfl) (by kernel_rfl) h

theorem e_bits_Len64_25 {y : AV × Mem} (h : (
  some (I (w64 (0 + w64 (↑(5 % 2 ^ 8) : Int))), [])) = some y) : cw f_bits_Len64 [.v (.int .u64 25)] [] = some y :=
  callw_tree R_bits_Len64 zT [] (by kernel_rfl) (by kernel_rfl) (by kernel_rfl) (by kernel_rfl) (by kernel_rfl) h

theorem e_bits_Len64_26 {y : AV × Mem} (h : (
  some (I (w64 (0 + w64 (↑(5 % 2 ^ 8) : Int))), [])) = some y) : cw f_bits_Len64 [.v (.int .u64 26)] [] = some y :=
  callw_tree R_bits_Len64 zT [] (by kernel_rfl) (by kernel_rfl) (by kernel_rfl) (by kernel_rfl) (by kernel_rfl) h

theorem e_bits_Len64_27 {y : AV × Mem} (h : (
  some (I (w64 (0 + w64 (↑(5 % 2 ^ 8) : Int))), [])) = some y) : cw f_bits_Len64 [.v (.int .u64 27)] [] = some y :=
  callw_tree R_bits_Len64 zT [] (by kernel_rfl) (by kernel_rfl) (by kernel_rfl) (by kernel_rfl) (by kernel_rfl) h

theorem e_bits_Len64_28 {y : AV × Mem} (h : (
  some (I (w64 (0 + w64 (↑(5 % 2 ^ 8) : Int))), [])) = some y) : cw f_bits_Len64 [.v (.int .u64 28)] [] = some y :=
  callw_tree R_bits_Len64 zT [] (by kernel_rfl) (by kernel_rfl) (by kernel_rfl) (by kernel_rfl) (by kernel_rfl) h

theorem e_bits_Len64_29 {y : AV × Mem} (h : (
  some (I (w64 (0 + w64 (↑(5 % 2 ^ 8) : Int))), [])) = some y) : cw f_bits_Len64 [.v (.int .u64 29)] [] = some y :=
  callw_tree R_bits_Len64 zT [] (by kernel_rfl) (by kernel_rfl) (by kernel_rfl) (by kernel_rfl) (by kernel_rfl) h

theorem e_bits_Len64_30 {y : AV × Mem} (h : (
  some (I (w64 (0 + w64 (↑(5 % 2 ^ 8) : Int))), [])) = some y) : cw f_bits_Len64 [.v (.int .u64 30)] [] = some y :=
  callw_tree R_bits_Len64 zT [] (by kernel_rfl) (by kernel_rfl) (by kernel_rfl) (by kernel_rfl) (by kernel_rfl) h

theorem e_bits_Len64_31 {y : AV × Mem} (h : (
  some (I (w64 (0 + w64 (↑(5 % 2 ^ 8) : Int))), [])) = some y) : cw f_bits_Len64 [.v (.int .u64 31)] [] = some y :=
  callw_tree R_bits_Len64 zT [] (by kernel_rfl) (by kernel_rfl) (by kernel_rfl) (by kernel_rfl) (by kernel_rfl) h

theorem e_bits_Len64_32 {y : AV × Mem} (h : (
  some (I (w64 (0 + w64 (↑(6 % 2 ^ 8) : Int))), [])) = some y) : cw f_bits_Len64 [.v (.int .u64 32)] [] = some y :=
  callw_tree R_bits_Len64 zT [] (by kernel_rfl) (by kernel_rfl) (by kernel_rfl) (by kernel_rfl) (by kernel_rfl) h

theorem e_bits_Len64_33 {y : AV × Mem} (h : (
  some (I (w64 (0 + w64 (↑(6 % 2 ^ 8) : Int))), [])) = some y) : cw f_bits_Len64 [.v (.int .u64 33)] [] = some y :=
  callw_tree R_bits_Len64 zT [] (by kernel_rfl) (by kernel_rfl) (by kernel_rfl) (by kernel_rfl) (by kernel_rfl) h

theorem e_bits_Len64_34 {y : AV × Mem} (h : (
  some (I (w64 (0 + w64 (↑(6 % 2 ^ 8) : Int))), [])) = some y) : cw f_bits_Len64 [.v (.int .u64 34)] [] = some y :=
  callw_tree R_bits_Len64 zT [] (by kernel_rfl) (by kernel_rfl) (by kernel_rfl) (by kernel_rfl) (by kernel_rfl) h

theorem e_bits_Len64_35 {y : AV × Mem} (h : (
  some (I (w64 (0 + w64 (↑(6 % 2 ^ 8) : Int))), [])) = some y) : cw f_bits_Len64 [.v (.int .u64 35)] [] = some y :=
  callw_tree R_bits_Len64 zT [] (by kernel_rfl) (by kernel_rfl) (by kernel_rfl) (by kernel_rfl) (by kernel_rfl) h

theorem e_bits_Len64_36 {y : AV × Mem} (h : (
  some (I (w64 (0 + w64 (↑(6 % 2 ^ 8) : Int))), [])) = some y) : cw f_bits_Len64 [.v (.int .u64 36)] [] = some y :=
  callw_tree R_bits_Len64 zT [] (by kernel_rfl) (by kernel_rfl) (by kernel_rfl) (by kernel_rfl) (by kernel_rfl) h

theorem e_bits_Len64_37 {y : AV × Mem} (h : (
  some (I (w64 (0 + w64 (↑(6 % 2 ^ 8) : Int))), [])) = some y) : cw f_bits_Len64 [.v (.int .u64 37)] [] = some y :=
  callw_tree R_bits_Len64 zT [] (by kernel_rfl) (by kernel_rfl) (by kernel_rfl) (by kernel_rfl) (by kernel_rfl) h

theorem e_bits_Len64_38 {y : AV × Mem} (h : (
  some (I (w64 (0 + w64 (↑(6 % 2 ^ 8) : Int))), [])) = some y) : cw f_bits_Len64 [.v (.int .u64 38)] [] = some y :=
  callw_tree R_bits_Len64 zT [] (by kernel_rfl) (by kernel_rfl) (by kernel_rfl) (by kernel_rfl) (by kernel_rfl) h

theorem e_bits_Len64_39 {y : AV × Mem} (h : (
  some (I (w64 (0 + w64 (↑(6 % 2 ^ 8) : Int))), [])) = some y) : cw f_bits_Len64 [.v (.int .u64 39)] [] = some y :=
  callw_tree R_bits_Len64 zT [] (by kernel_rfl) (by kernel_rfl) (by kernel_rfl) (by kernel_rfl) (by kernel_rfl) h

theorem e_bits_Len64_40 {y : AV × Mem} (h : (
  some (I (w64 (0 + w64 (↑(6 % 2 ^ 8) : Int))), [])) = some y) : cw f_bits_Len64 [.v (.int .u64 40)] [] = some y :=
  callw_tree R_bits_Len64 zT [] (by kernel_rfl) (by kernel_rfl) (by kernel_rfl) (by kernel_rfl) (by kernel_rfl) h

theorem e_bits_Len64_41 {y : AV × Mem} (h : (
  some (I (w64 (0 + w64 (↑(6 % 2 ^ 8) : Int))), [])) = some y) : cw f_bits_Len64 [.v (.int .u64 41)] [] = some y :=
  callw_tree R_bits_Len64 zT [] (by kernel_rfl) (by kernel_rfl) (by kernel_rfl) (by kernel_rfl) (by kernel_rfl) h

theorem e_bits_Len64_42 {y : AV × Mem} (h : (
  some (I (w64 (0 + w64 (↑(6 % 2 ^ 8) : Int))), [])) = some y) : cw f_bits_Len64 [.v (.int .u64 42)] [] = some y :=
  callw_tree R_bits_Len64 zT [] (by kernel_rfl) (by kernel_rfl) (by kernel_rfl) (by kernel_rfl) (by kernel_rfl) h

theorem e_bits_Len64_43 {y : AV × Mem} (h : (
  some (I (w64 (0 + w64 (↑(6 % 2 ^ 8) : Int))), [])) = some y) : cw f_bits_Len64 [.v (.int .u64 43)] [] = some y :=
  callw_tree R_bits_Len64 zT [] (by kernel_rfl) (by kernel_rfl) (by kernel_rfl) (by kernel_rfl) (by kernel_rfl) h

theorem e_bits_Len64_44 {y : AV × Mem} (h : (
  some (I (w64 (0 + w64 (↑(6 % 2 ^ 8) : Int))), [])) = some y) : cw f_bits_Len64 [.v (.int .u64 44)] [] = some y :=
  callw_tree R_bits_Len64 zT [] (by kernel_rfl) (by kernel_rfl) (by kernel_rfl) (by kernel_rfl) (by kernel_rfl) h

theorem e_bits_Len64_45 {y : AV × Mem} (h : (
  some (I (w64 (0 + w64 (↑(6 % 2 ^ 8) : Int))), [])) = some y) : cw f_bits_Len64 [.v (.int .u64 45)] [] = some y :=
  callw_tree R_bits_Len64 zT [] (by kernel_rfl) (by kernel_rfl) (by kernel_rfl) (by kernel_rfl) (by kernel_rfl) h

theorem e_bits_Len64_46 {y : AV × Mem} (h : (
  some (I (w64 (0 + w64 (↑(6 % 2 ^ 8) : Int))), [])) = some y) : cw f_bits_Len64 [.v (.int .u64 46)] [] = some y :=
  callw_tree R_bits_Len64 zT [] (by kernel_rfl) (by kernel_rfl) (by kernel_rfl) (by kernel_rfl) (by kernel_rfl) h

theorem e_bits_Len64_47 {y : AV × Mem} (h : (
  some (I (w64 (0 + w64 (↑(6 % 2 ^ 8) : Int))), [])) = some y) : cw f_bits_Len64 [.v (.int .u64 47)] [] = some y :=
  callw_tree R_bits_Len64 zT [] (by kernel_rfl) (by kernel_rfl) (by kernel_rfl) (by kernel_rfl) (by kernel_rfl) h

theorem e_bits_Len64_48 {y : AV × Mem} (h : (
  some (I (w64 (0 + w64 (↑(6 % 2 ^ 8) : Int))), [])) = some y) : cw f_bits_Len64 [.v (.int .u64 48)] [] = some y :=
  callw_tree R_bits_Len64 zT [] (by kernel_rfl) (by kernel_rfl) (by kernel_rfl) (by kernel_rfl) (by kernel_rfl) h

theorem e_bits_Len64_49 {y : AV × Mem} (h : (
  some (I (w64 (0 + w64 (↑(6 % 2 ^ 8) : Int))), [])) = some y) : cw f_bits_Len64 [.v (.int .u64 49)] [] = some y :=
  callw_tree R_bits_Len64 zT [] (by kernel_rfl) (by kernel_rfl) (by kernel_rfl) (by kernel_rfl) (by kernel_rfl) h

noncomputable def k_ratio_gcd_1 (x0 : Int) (x1 : Int) : Option (AV × Mem) := pt R_ratio_gcd 1 ⟨[(0, .v (.int .u64 x0)), (1, .v (.int .u64 x1))], []⟩

theorem t_ratio_gcd_1 (x0 : Int) (x1 : Int) {y : AV × Mem} (h : (
  brn (x1 != 0) (chk ((x1 : Int) ≠ 0) <|
   k_ratio_gcd_1 x1 (x0.tmod x1))
  (some (.v (.int .u64 x0), []))) = some y) : k_ratio_gcd_1 x0 x1 = some y :=
  pt_of zT [] (by kernel_rfl) h

theorem e_ratio_gcd (a0 : Int) (a1 : Int) {y : AV × Mem} (h : (
  k_ratio_gcd_1 a0 a1) = some y) : cw f_ratio_gcd [.v (.int .u64 a0), .v (.int .u64 a1)] [] = some y :=
  callw_tree R_ratio_gcd zT [] (by kernel_rfl) (by kernel_rfl) (by kernel_rfl) (by kernel_rfl) (by kernel_rfl) h

theorem e_ratio_product (a0 : Int) (a1 : Int) {y : AV × Mem} (h : (
  callD r_bits_Mul64 (cw f_bits_Mul64 [.v (.int .u64 a0), .v (.int .u64 a1)] []) fun (r0 : Int × Int) =>
  some (.agg (dGratioWide.enc (⟨r0.fst, r0.snd⟩)), [])) = some y) : cw f_ratio_product [.v (.int .u64 a0), .v (.int .u64 a1)] [] = some y :=
  callw_tree R_ratio_product zT [] (by kernel_rfl) (by kernel_rfl) (by kernel_rfl) (by kernel_rfl) (by kernel_rfl) h

theorem e_cmp_Compare_uint64 (a0 : Int) (a1 : Int) {y : AV × Mem} (h : (
  callD r_cmp_isNaN_uint64 (cw f_cmp_isNaN_uint64 [.v (.int .u64 a0)] []) fun (r0 : Bool) =>
  callD r_cmp_isNaN_uint64 (cw f_cmp_isNaN_uint64 [.v (.int .u64 a1)] []) fun (r1 : Bool) =>
  brn r0 (brn r1 (some (I 0, []))
   (some (I (-1), [])))
  (brn r1 (some (I 1, []))
   (brn (decide (a0 < a1)) (some (I (-1), []))
    (brn (decide (a1 < a0)) (some (I 1, []))
     (some (I 0, [])))))) = some y) : cw f_cmp_Compare_uint64 [.v (.int .u64 a0), .v (.int .u64 a1)] [] = some y :=
  callw_tree R_cmp_Compare_uint64 zT [] (by kernel_rfl) (by kernel_rfl) (by kernel_rfl) (by kernel_rfl) (by kernel_rfl) h

theorem e_ratio_wide_mod (a0 : GratioWide) (a1 : Int) {y : AV × Mem} (h : (
  callD r_bits_Rem64 (cw f_bits_Rem64 [.v (.int .u64 a0.hi), .v (.int .u64 a0.lo), .v (.int .u64 a1)] []) fun (r0 : Int) =>
  some (.v (.int .u64 r0), [])) = some y) : cw f_ratio_wide_mod [.agg (dGratioWide.enc a0), .v (.int .u64 a1)] [] = some y :=
  callw_tree R_ratio_wide_mod zT [] (by kernel_rfl) (by kernel_rfl) (by kernel_rfl) (by kernel_rfl) (by kernel_rfl) h

theorem e_ratio_fitted (a0 : Bool) (a1 : GratioWide) (a2 : GratioWide) {y : AV × Mem} (h : (
  brn (a1.hi != 0) (some (.tup [.agg (dGRatio.enc (⟨0, 0⟩)), I 6], []))
  (brn (a2.hi != 0) (some (.tup [.agg (dGRatio.enc (⟨0, 0⟩)), I 6], []))
   (brn (decide (1152921504606846976 < a1.lo)) (some (.tup [.agg (dGRatio.enc (⟨0, 0⟩)), I 6], []))
    (brn (decide (1152921504606846976 < a2.lo)) (some (.tup [.agg (dGRatio.enc (⟨0, 0⟩)), I 6], []))
     (brn a0 (some (.tup [.agg (dGRatio.enc (⟨w64 (0 - w64 a1.lo), w64 a2.lo⟩)), I 0], []))
      (some (.tup [.agg (dGRatio.enc (⟨w64 a1.lo, w64 a2.lo⟩)), I 0], []))))))) = some y) : cw f_ratio_fitted [B a0, .agg (dGratioWide.enc a1), .agg (dGratioWide.enc a2)] [] = some y :=
  callw_tree R_ratio_fitted zT [] (by kernel_rfl) (by kernel_rfl) (by kernel_rfl) (by kernel_rfl) (by kernel_rfl) h

theorem e_ratio_wide_over (a0 : GratioWide) (a1 : Int) {y : AV × Mem} (h : (
  chk ((a1 : Int) ≠ 0) <|
  chk ((a1 : Int) ≠ 0) <|
  callD r_bits_Div64 (cw f_bits_Div64 [.v (.int .u64 (a0.hi.tmod a1)), .v (.int .u64 a0.lo), .v (.int .u64 a1)] []) fun (r0 : Int × Int) =>
  some (.agg (dGratioWide.enc (⟨wu64 (a0.hi.tdiv a1), r0.fst⟩)), [])) = some y) : cw f_ratio_wide_over [.agg (dGratioWide.enc a0), .v (.int .u64 a1)] [] = some y :=
  callw_tree R_ratio_wide_over zT [] (by kernel_rfl) (by kernel_rfl) (by kernel_rfl) (by kernel_rfl) (by kernel_rfl) h

end Go.Proofs.Ytohpjbokhcifbaa
