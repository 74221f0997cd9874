/- What the functions compute, between two cut points: printed by a program, checked by the kernel. -/
import Derived.Test.YtapkemilafogjaaAnn
namespace Go.Proofs.Ytapkemilafogjaa
open Go.Ab
set_option maxRecDepth 100000
set_option linter.unusedVariables false

theorem e_bits_Len64_5 {y : AV × Mem} (h : (
  some (I (w64 (0 + w64 (↑(3 % 2 ^ 8) : Int))), [])) = some y) : cw f_bits_Len64 [.v (.int .u64 5)] [] = some y :=
  callw_tree R_bits_Len64 zT [] (by kernel_rfl) (by kernel_rfl) (by kernel_rfl) (by kernel_rfl) (by kernel_rfl) h

theorem e_bits_Len64_6 {y : AV × Mem} (h : (
  some (I (w64 (0 + w64 (↑(3 % 2 ^ 8) : Int))), [])) = some y) : cw f_bits_Len64 [.v (.int .u64 6)] [] = some y :=
  callw_tree R_bits_Len64 zT [] (by kernel_rfl) (by kernel_rfl) (by kernel_rfl) (by kernel_rfl) (by kernel_rfl) h

theorem e_bits_Len64_7 {y : AV × Mem} (h : (
  some (I (w64 (0 + w64 (↑(3 % 2 ^ 8) : Int))), [])) = some y) : cw f_bits_Len64 [.v (.int .u64 7)] [] = some y :=
  callw_tree R_bits_Len64 zT [] (by kernel_rfl) (by kernel_rfl) (by kernel_rfl) (by kernel_rfl) (by kernel_rfl) h

theorem e_bits_Len64_8 {y : AV × Mem} (h : (
  some (I (w64 (0 + w64 (↑(4 % 2 ^ 8) : Int))), [])) = some y) : cw f_bits_Len64 [.v (.int .u64 8)] [] = some y :=
  callw_tree R_bits_Len64 zT [] (by kernel_rfl) (by kernel_rfl) (by kernel_rfl) (by kernel_rfl) (by kernel_rfl) h

theorem e_bits_Len64_9 {y : AV × Mem} (h : (
  some (I (w64 (0 + w64 (↑(4 % 2 ^ 8) : Int))), [])) = some y) : cw f_bits_Len64 [.v (.int .u64 9)] [] = some y :=
  callw_tree R_bits_Len64 zT [] (by kernel_rfl) (by kernel_rfl) (by kernel_rfl) (by kernel_rfl) (by kernel_rfl) h

theorem e_bits_Len64_10 {y : AV × Mem} (h : (
  some (I (w64 (0 + w64 (↑(4 % 2 ^ 8) : Int))), [])) = some y) : cw f_bits_Len64 [.v (.int .u64 10)] [] = some y :=
  callw_tree R_bits_Len64 zT [] (by kernel_rfl) (by kernel_rfl) (by kernel_rfl) (by kernel_rfl) (by kernel_rfl) h

theorem e_bits_Len64_11 {y : AV × Mem} (h : (
  some (I (w64 (0 + w64 (↑(4 % 2 ^ 8) : Int))), [])) = some y) : cw f_bits_Len64 [.v (.int .u64 11)] [] = some y :=
  callw_tree R_bits_Len64 zT [] (by kernel_rfl) (by kernel_rfl) (by kernel_rfl) (by kernel_rfl) (by kernel_rfl) h

theorem e_bits_Len64_12 {y : AV × Mem} (h : (
  some (I (w64 (0 + w64 (↑(4 % 2 ^ 8) : Int))), [])) = some y) : cw f_bits_Len64 [.v (.int .u64 12)] [] = some y :=
  callw_tree R_bits_Len64 zT [] (by kernel_rfl) (by kernel_rfl) (by kernel_rfl) (by kernel_rfl) (by kernel_rfl) h

theorem e_bits_Len64_13 {y : AV × Mem} (h : (
  some (I (w64 (0 + w64 (↑(4 % 2 ^ 8) : Int))), [])) = some y) : cw f_bits_Len64 [.v (.int .u64 13)] [] = some y :=
  callw_tree R_bits_Len64 zT [] (by kernel_rfl) (by kernel_rfl) (by kernel_rfl) (by kernel_rfl) (by kernel_rfl) h

theorem e_bits_Len64_14 {y : AV × Mem} (h : (
  some (I (w64 (0 + w64 (↑(4 % 2 ^ 8) : Int))), [])) = some y) : cw f_bits_Len64 [.v (.int .u64 14)] [] = some y :=
  callw_tree R_bits_Len64 zT [] (by kernel_rfl) (by kernel_rfl) (by kernel_rfl) (by kernel_rfl) (by kernel_rfl) h

theorem e_bits_Len64_15 {y : AV × Mem} (h : (
  some (I (w64 (0 + w64 (↑(4 % 2 ^ 8) : Int))), [])) = some y) : cw f_bits_Len64 [.v (.int .u64 15)] [] = some y :=
  callw_tree R_bits_Len64 zT [] (by kernel_rfl) (by kernel_rfl) (by kernel_rfl) (by kernel_rfl) (by kernel_rfl) h

theorem e_bits_Len64_16 {y : AV × Mem} (h : (
  some (I (w64 (0 + w64 (↑(5 % 2 ^ 8) : Int))), [])) = some y) : cw f_bits_Len64 [.v (.int .u64 16)] [] = some y :=
  callw_tree R_bits_Len64 zT [] (by kernel_rfl) (by kernel_rfl) (by kernel_rfl) (by kernel_rfl) (by kernel_rfl) h

theorem e_bits_Len64_17 {y : AV × Mem} (h : (
  some (I (w64 (0 + w64 (↑(5 % 2 ^ 8) : Int))), [])) = some y) : cw f_bits_Len64 [.v (.int .u64 17)] [] = some y :=
  callw_tree R_bits_Len64 zT [] (by kernel_rfl) (by kernel_rfl) (by kernel_rfl) (by kernel_rfl) (by kernel_rfl) h

theorem e_bits_Len64_18 {y : AV × Mem} (h : (
  some (I (w64 (0 + w64 (↑(5 % 2 ^ 8) : Int))), [])) = some y) : cw f_bits_Len64 [.v (.int .u64 18)] [] = some y :=
  callw_tree R_bits_Len64 zT [] (by kernel_rfl) (by kernel_rfl) (by kernel_rfl) (by kernel_rfl) (by kernel_rfl) h

theorem e_bits_Len64_19 {y : AV × Mem} (h : (
  some (I (w64 (0 + w64 (↑(5 % 2 ^ 8) : Int))), [])) = some y) : cw f_bits_Len64 [.v (.int .u64 19)] [] = some y :=
  callw_tree R_bits_Len64 zT [] (by kernel_rfl) (by kernel_rfl) (by kernel_rfl) (by kernel_rfl) (by kernel_rfl) h

theorem e_bits_Len64_20 {y : AV × Mem} (h : (
  some (I (w64 (0 + w64 (↑(5 % 2 ^ 8) : Int))), [])) = some y) : cw f_bits_Len64 [.v (.int .u64 20)] [] = some y :=
  callw_tree R_bits_Len64 zT [] (by kernel_rfl) (by kernel_rfl) (by kernel_rfl) (by kernel_rfl) (by kernel_rfl) h

theorem e_bits_Len64_21 {y : AV × Mem} (h : (
  some (I (w64 (0 + w64 (↑(5 % 2 ^ 8) : Int))), [])) = some y) : cw f_bits_Len64 [.v (.int .u64 21)] [] = some y :=
  callw_tree R_bits_Len64 zT [] (by kernel_rfl) (by kernel_rfl) (by kernel_rfl) (by kernel_rfl) (by kernel_rfl) h

theorem e_bits_Len64_22 {y : AV × Mem} (h : (
  some (I (w64 (0 + w64 (↑(5 % 2 ^ 8) : Int))), [])) = some y) : cw f_bits_Len64 [.v (.int .u64 22)] [] = some y :=
  callw_tree R_bits_Len64 zT [] (by kernel_rfl) (by kernel_rfl) (by kernel_rfl) (by kernel_rfl) (by kernel_rfl) h

theorem e_bits_Len64_23 {y : AV × Mem} (h : (
  some (I (w64 (0 + w64 (↑(5 % 2 ^ 8) : Int))), [])) = some y) : cw f_bits_Len64 [.v (.int .u64 23)] [] = some y :=
  callw_tree R_bits_Len64 zT [] (by kernel_rfl) (by kernel_rfl) (by kernel_rfl) (by kernel_rfl) (by kernel_rfl) h

theorem e_bits_Len64_24 {y : AV × Mem} (h : (
  some (I (w64 (0 + w64 (↑(5 % 2 ^ 8) : Int))), [])) = some y) : cw f_bits_Len64 [.v (.int .u64 24)] [] = some y :=
  callw_tree R_bits_Len64 zT [] (by kernel_rfl) (by kernel_rfl) (by kernel_rfl) (by kernel_rfl) (by kernel_rfl) h

theorem e_bits_Len64_25 {y : AV × Mem} (h : (
  some (I (w64 (0 + w64 (↑(5 % 2 ^ 8) : Int))), [])) = some y) : cw f_bits_Len64 [.v (.int .u64 25)] [] = some y :=
  callw_tree R_bits_Len64 zT [] (by kernel_rfl) (by kernel_rfl) (by kernel_rfl) (by kernel_rfl) (by kernel_rfl) h

theorem e_bits_Len64_26 {y : AV × Mem} (h : (
  some (I (w64 (0 + w64 (↑(5 % 2 ^ 8) : Int))), [])) = some y) : cw f_bits_Len64 [.v (.int .u64 26)] [] = some y :=
  callw_tree R_bits_Len64 zT [] (by kernel_rfl) (by kernel_rfl) (by kernel_rfl) (by kernel_rfl) (by kernel_rfl) h

theorem e_bits_Len64_27 {y : AV × Mem} (h : (
  some (I (w64 (0 + w64 (↑(5 % 2 ^ 8) : Int))), [])) = some y) : cw f_bits_Len64 [.v (.int .u64 27)] [] = some y :=
  callw_tree R_bits_Len64 zT [] (by kernel_rfl) (by kernel_rfl) (by kernel_rfl) (by kernel_rfl) (by kernel_rfl) h

theorem e_bits_Len64_28 {y : AV × Mem} (h : (
  some (I (w64 (0 + w64 (↑(5 % 2 ^ 8) : Int))), [])) = some y) : cw f_bits_Len64 [.v (.int .u64 28)] [] = some y :=
  callw_tree R_bits_Len64 zT [] (by kernel_rfl) (by kernel_rfl) (by kernel_rfl) (by kernel_rfl) (by kernel_rfl) h

theorem e_bits_Len64_29 {y : AV × Mem} (h : (
  some (I (w64 (0 + w64 (↑(5 % 2 ^ 8) : Int))), [])) = some y) : cw f_bits_Len64 [.v (.int .u64 29)] [] = some y :=
  callw_tree R_bits_Len64 zT [] (by kernel_rfl) (by kernel_rfl) (by kernel_rfl) (by kernel_rfl) (by kernel_rfl) h

theorem e_bits_Len64_30 {y : AV × Mem} (h : (
  some (I (w64 (0 + w64 (↑(5 % 2 ^ 8) : Int))), [])) = some y) : cw f_bits_Len64 [.v (.int .u64 30)] [] = some y :=
  callw_tree R_bits_Len64 zT [] (by kernel_rfl) (by kernel_rfl) (by kernel_rfl) (by kernel_rfl) (by kernel_rfl) h

theorem e_bits_Len64_31 {y : AV × Mem} (h : (
  some (I (w64 (0 + w64 (↑(5 % 2 ^ 8) : Int))), [])) = some y) : cw f_bits_Len64 [.v (.int .u64 31)] [] = some y :=
  callw_tree R_bits_Len64 zT [] (by kernel_rfl) (by kernel_rfl) (by kernel_rfl) (by kernel_rfl) (by kernel_rfl) h

theorem e_bits_Len64_32 {y : AV × Mem} (h : (
  some (I (w64 (0 + w64 (↑(6 % 2 ^ 8) : Int))), [])) = some y) : cw f_bits_Len64 [.v (.int .u64 32)] [] = some y :=
  callw_tree R_bits_Len64 zT [] (by kernel_rfl) (by kernel_rfl) (by kernel_rfl) (by kernel_rfl) (by kernel_rfl) h

theorem e_bits_Len64_33 {y : AV × Mem} (h : (
  some (I (w64 (0 + w64 (↑(6 % 2 ^ 8) : Int))), [])) = some y) : cw f_bits_Len64 [.v (.int .u64 33)] [] = some y :=
  callw_tree R_bits_Len64 zT [] (by kernel_rfl) (by kernel_rfl) (by kernel_rfl) (by kernel_rfl) (by kernel_rfl) h

theorem e_bits_Len64_34 {y : AV × Mem} (h : (
  some (I (w64 (0 + w64 (↑(6 % 2 ^ 8) : Int))), [])) = some y) : cw f_bits_Len64 [.v (.int .u64 34)] [] = some y :=
  callw_tree R_bits_Len64 zT [] (by kernel_rfl) (by kernel_rfl) (by kernel_rfl) (by kernel_rfl) (by kernel_rfl) h

theorem e_bits_Len64_35 {y : AV × Mem} (h : (
  some (I (w64 (0 + w64 (↑(6 % 2 ^ 8) : Int))), [])) = some y) : cw f_bits_Len64 [.v (.int .u64 35)] [] = some y :=
  callw_tree R_bits_Len64 zT [] (by kernel_rfl) (by kernel_rfl) (by kernel_rfl) (by kernel_rfl) (by kernel_rfl) h

theorem e_bits_Len64_36 {y : AV × Mem} (h : (
  some (I (w64 (0 + w64 (↑(6 % 2 ^ 8) : Int))), [])) = some y) : cw f_bits_Len64 [.v (.int .u64 36)] [] = some y :=
  callw_tree R_bits_Len64 zT [] (by kernel_rfl) (by kernel_rfl) (by kernel_rfl) (by kernel_rfl) (by kernel_rfl) h

theorem e_bits_Len64_37 {y : AV × Mem} (h : (
  some (I (w64 (0 + w64 (↑(6 % 2 ^ 8) : Int))), [])) = some y) : cw f_bits_Len64 [.v (.int .u64 37)] [] = some y :=
  callw_tree R_bits_Len64 zT [] (by kernel_rfl) (by kernel_rfl) (by kernel_rfl) (by kernel_rfl) (by kernel_rfl) h

theorem e_bits_Len64_38 {y : AV × Mem} (h : (
  some (I (w64 (0 + w64 (↑(6 % 2 ^ 8) : Int))), [])) = some y) : cw f_bits_Len64 [.v (.int .u64 38)] [] = some y :=
  callw_tree R_bits_Len64 zT [] (by kernel_rfl) (by kernel_rfl) (by kernel_rfl) (by kernel_rfl) (by kernel_rfl) h

theorem e_bits_Len64_39 {y : AV × Mem} (h : (
  some (I (w64 (0 + w64 (↑(6 % 2 ^ 8) : Int))), [])) = some y) : cw f_bits_Len64 [.v (.int .u64 39)] [] = some y :=
  callw_tree R_bits_Len64 zT [] (by kernel_rfl) (by kernel_rfl) (by kernel_rfl) (by kernel_rfl) (by kernel_rfl) h

theorem e_bits_Len64_40 {y : AV × Mem} (h : (
  some (I (w64 (0 + w64 (↑(6 % 2 ^ 8) : Int))), [])) = some y) : cw f_bits_Len64 [.v (.int .u64 40)] [] = some y :=
  callw_tree R_bits_Len64 zT [] (by kernel_rfl) (by kernel_rfl) (by kernel_rfl) (by kernel_rfl) (by kernel_rfl) h

theorem e_bits_Len64_41 {y : AV × Mem} (h : (
  some (I (w64 (0 + w64 (↑(6 % 2 ^ 8) : Int))), [])) = some y) : cw f_bits_Len64 [.v (.int .u64 41)] [] = some y :=
  callw_tree R_bits_Len64 zT [] (by kernel_rfl) (by kernel_rfl) (by kernel_rfl) (by kernel_rfl) (by kernel_rfl) h

theorem e_bits_Len64_42 {y : AV × Mem} (h : (
  some (I (w64 (0 + w64 (↑(6 % 2 ^ 8) : Int))), [])) = some y) : cw f_bits_Len64 [.v (.int .u64 42)] [] = some y :=
  callw_tree R_bits_Len64 zT [] (by kernel_rfl) (by kernel_rfl) (by kernel_rfl) (by kernel_rfl) (by kernel_rfl) h

theorem e_bits_Len64_43 {y : AV × Mem} (h : (
  some (I (w64 (0 + w64 (↑(6 % 2 ^ 8) : Int))), [])) = some y) : cw f_bits_Len64 [.v (.int .u64 43)] [] = some y :=
  callw_tree R_bits_Len64 zT [] (by kernel_rfl) (by kernel_rfl) (by kernel_rfl) (by kernel_rfl) (by kernel_rfl) h

theorem e_bits_Len64_44 {y : AV × Mem} (h : (
  some (I (w64 (0 + w64 (↑(6 % 2 ^ 8) : Int))), [])) = some y) : cw f_bits_Len64 [.v (.int .u64 44)] [] = some y :=
  callw_tree R_bits_Len64 zT [] (by kernel_rfl) (by kernel_rfl) (by kernel_rfl) (by kernel_rfl) (by kernel_rfl) h

theorem e_bits_Len64_45 {y : AV × Mem} (h : (
  some (I (w64 (0 + w64 (↑(6 % 2 ^ 8) : Int))), [])) = some y) : cw f_bits_Len64 [.v (.int .u64 45)] [] = some y :=
  callw_tree R_bits_Len64 zT [] (by kernel_rfl) (by kernel_rfl) (by kernel_rfl) (by kernel_rfl) (by kernel_rfl) h

theorem e_bits_Len64_46 {y : AV × Mem} (h : (
  some (I (w64 (0 + w64 (↑(6 % 2 ^ 8) : Int))), [])) = some y) : cw f_bits_Len64 [.v (.int .u64 46)] [] = some y :=
  callw_tree R_bits_Len64 zT [] (by kernel_rfl) (by kernel_rfl) (by kernel_rfl) (by kernel_rfl) (by kernel_rfl) h

theorem e_bits_Len64_47 {y : AV × Mem} (h : (
  some (I (w64 (0 + w64 (↑(6 % 2 ^ 8) : Int))), [])) = some y) : cw f_bits_Len64 [.v (.int .u64 47)] [] = some y :=
  callw_tree R_bits_Len64 zT [] (by kernel_rfl) (by kernel_rfl) (by kernel_rfl) (by kernel_rfl) (by kernel_rfl) h

theorem e_bits_Len64_48 {y : AV × Mem} (h : (
  some (I (w64 (0 + w64 (↑(6 % 2 ^ 8) : Int))), [])) = some y) : cw f_bits_Len64 [.v (.int .u64 48)] [] = some y :=
  callw_tree R_bits_Len64 zT [] (by kernel_rfl) (by kernel_rfl) (by kernel_rfl) (by kernel_rfl) (by kernel_rfl) h

theorem e_bits_Len64_49 {y : AV × Mem} (h : (
  some (I (w64 (0 + w64 (↑(6 % 2 ^ 8) : Int))), [])) = some y) : cw f_bits_Len64 [.v (.int .u64 49)] [] = some y :=
  callw_tree R_bits_Len64 zT [] (by kernel_rfl) (by kernel_rfl) (by kernel_rfl) (by kernel_rfl) (by kernel_rfl) h

theorem e_cmp_isNaN_uint64 (a0 : Int) {y : AV × Mem} (h : (
  some (B (a0 != a0), [])) = some y) : cw f_cmp_isNaN_uint64 [.v (.int .u64 a0)] [] = some y :=
  callw_tree R_cmp_isNaN_uint64 zT [] (by kernel_rfl) (by kernel_rfl) (by kernel_rfl) (by kernel_rfl) (by kernel_rfl) h

noncomputable def k_slices_siftDownCmpFunc_api_Ratio_1 (a0 : List GRatio) (a2 : Int) (a3 : Int) (x0 : List (List AV)) (x1 : Int) : Option (AV × Mem) := pt R_slices_siftDownCmpFunc_api_Ratio 1 ⟨[(0, .row 1000 2 0 ((List.map dGRatio.enc a0).length)), (2, I a2), (3, I a3), (4, .fn f_ratio_Compare []), (10, I x1)], [(1000, ⟨2, ty_api_Ratio, x0, false⟩)]⟩

noncomputable def k_slices_siftDownCmpFunc_api_Ratio_1005 (a0 : List GRatio) (a2 : Int) (a3 : Int) (x0 : List (List AV)) (x1 : Int) : Option (AV × Mem) := pt R_slices_siftDownCmpFunc_api_Ratio 1005 ⟨[(0, .row 1000 2 0 ((List.map dGRatio.enc a0).length)), (2, I a2), (3, I a3), (4, .fn f_ratio_Compare []), (10, I x1), (11, I (w64 (w64 (w64 (2 * x1) + 1) + 1)))], [(1000, ⟨2, ty_api_Ratio, x0, false⟩)]⟩

noncomputable def k_slices_siftDownCmpFunc_api_Ratio_1005v1 (a0 : List GRatio) (a2 : Int) (a3 : Int) (x0 : List (List AV)) (x1 : Int) : Option (AV × Mem) := pt R_slices_siftDownCmpFunc_api_Ratio 1005 ⟨[(0, .row 1000 2 0 ((List.map dGRatio.enc a0).length)), (2, I a2), (3, I a3), (4, .fn f_ratio_Compare []), (10, I x1), (11, I (w64 (w64 (2 * x1) + 1))), (40, B false)], [(1000, ⟨2, ty_api_Ratio, x0, false⟩)]⟩

theorem t_slices_siftDownCmpFunc_api_Ratio_1 (a0 : List GRatio) (a2 : Int) (a3 : Int) (x0 : List (List AV)) (x1 : Int) {y : AV × Mem} (h : (
  brn (decide (a2 ≤ w64 (w64 (2 * x1) + 1))) (some (.tup [], [(1000, ⟨2, ty_api_Ratio, x0, false⟩)]))
  (brn (decide (w64 (w64 (w64 (2 * x1) + 1) + 1) < a2)) (chk ((0 : Int) ≤ (w64 (a3 + w64 (w64 (2 * x1) + 1)))) <|
    chk ((w64 (a3 + w64 (w64 (2 * x1) + 1)) : Int) < ((↑(List.map dGRatio.enc a0).length : Int))) <|
    elemD dGRatio x0 (0 + (w64 (a3 + w64 (w64 (2 * x1) + 1))).toNat) fun (c2 : GRatio) =>
    chk ((0 : Int) ≤ (w64 (w64 (a3 + w64 (w64 (2 * x1) + 1)) + 1))) <|
    chk ((w64 (w64 (a3 + w64 (w64 (2 * x1) + 1)) + 1) : Int) < ((↑(List.map dGRatio.enc a0).length : Int))) <|
    elemD dGRatio x0 (0 + (w64 (w64 (a3 + w64 (w64 (2 * x1) + 1)) + 1)).toNat) fun (c3 : GRatio) =>
    callD r_ratio_Compare (cw f_ratio_Compare [.agg (dGRatio.enc c2), .agg (dGRatio.enc c3)] []) fun (r4 : Int) =>
    brn (decide (r4 < 0)) (k_slices_siftDownCmpFunc_api_Ratio_1005 a0 a2 a3 x0 x1)
    (k_slices_siftDownCmpFunc_api_Ratio_1005v1 a0 a2 a3 x0 x1))
   (k_slices_siftDownCmpFunc_api_Ratio_1005v1 a0 a2 a3 x0 x1))) = some y) : k_slices_siftDownCmpFunc_api_Ratio_1 a0 a2 a3 x0 x1 = some y :=
  pt_of zT [5] (by kernel_rfl) h

theorem t_slices_siftDownCmpFunc_api_Ratio_1005 (a0 : List GRatio) (a2 : Int) (a3 : Int) (x0 : List (List AV)) (x1 : Int) {y : AV × Mem} (h : (
  chk ((0 : Int) ≤ (w64 (a3 + x1))) <|
  chk ((w64 (a3 + x1) : Int) < ((↑(List.map dGRatio.enc a0).length : Int))) <|
  elemD dGRatio x0 (0 + (w64 (a3 + x1)).toNat) fun (c5 : GRatio) =>
  chk ((0 : Int) ≤ (w64 (a3 + w64 (w64 (w64 (2 * x1) + 1) + 1)))) <|
  chk ((w64 (a3 + w64 (w64 (w64 (2 * x1) + 1) + 1)) : Int) < ((↑(List.map dGRatio.enc a0).length : Int))) <|
  elemD dGRatio x0 (0 + (w64 (a3 + w64 (w64 (w64 (2 * x1) + 1) + 1))).toNat) fun (c6 : GRatio) =>
  callD r_ratio_Compare (cw f_ratio_Compare [.agg (dGRatio.enc c5), .agg (dGRatio.enc c6)] []) fun (r7 : Int) =>
  brn (!decide (r7 < 0)) (some (.tup [], [(1000, ⟨2, ty_api_Ratio, x0, false⟩)]))
  (chk ((0 : Int) ≤ (w64 (a3 + w64 (w64 (w64 (2 * x1) + 1) + 1)))) <|
   chk ((w64 (a3 + w64 (w64 (w64 (2 * x1) + 1) + 1)) : Int) < ((↑(List.map dGRatio.enc a0).length : Int))) <|
   elemD dGRatio x0 (0 + (w64 (a3 + w64 (w64 (w64 (2 * x1) + 1) + 1))).toNat) fun (c8 : GRatio) =>
   chk ((0 : Int) ≤ (w64 (a3 + x1))) <|
   chk ((w64 (a3 + x1) : Int) < ((↑(List.map dGRatio.enc a0).length : Int))) <|
   elemD dGRatio x0 (0 + (w64 (a3 + x1)).toNat) fun (c9 : GRatio) =>
   chk ((0 : Int) ≤ (w64 (a3 + x1))) <|
   chk ((w64 (a3 + x1) : Int) < ((↑(List.map dGRatio.enc a0).length : Int))) <|
   elemD dGRatio x0 (0 + (w64 (a3 + x1)).toNat) fun (c10 : GRatio) =>
   chk ((0 : Int) ≤ (w64 (a3 + w64 (w64 (w64 (2 * x1) + 1) + 1)))) <|
   chk ((w64 (a3 + w64 (w64 (w64 (2 * x1) + 1) + 1)) : Int) < ((↑(List.map dGRatio.enc a0).length : Int))) <|
   elemD dGRatio (List.set x0 (0 + (w64 (a3 + x1)).toNat) (dGRatio.enc c8)) (0 + (w64 (a3 + w64 (w64 (w64 (2 * x1) + 1) + 1))).toNat) fun (c11 : GRatio) =>
   k_slices_siftDownCmpFunc_api_Ratio_1 a0 a2 a3 (List.set (List.set x0 (0 + (w64 (a3 + x1)).toNat) (dGRatio.enc c8)) (0 + (w64 (a3 + w64 (w64 (w64 (2 * x1) + 1) + 1))).toNat) (dGRatio.enc c9)) (w64 (w64 (w64 (2 * x1) + 1) + 1)))) = some y) : k_slices_siftDownCmpFunc_api_Ratio_1005 a0 a2 a3 x0 x1 = some y :=
  pt_of zT [5] (by kernel_rfl) h

theorem t_slices_siftDownCmpFunc_api_Ratio_1005v1 (a0 : List GRatio) (a2 : Int) (a3 : Int) (x0 : List (List AV)) (x1 : Int) {y : AV × Mem} (h : (
  chk ((0 : Int) ≤ (w64 (a3 + x1))) <|
  chk ((w64 (a3 + x1) : Int) < ((↑(List.map dGRatio.enc a0).length : Int))) <|
  elemD dGRatio x0 (0 + (w64 (a3 + x1)).toNat) fun (c12 : GRatio) =>
  chk ((0 : Int) ≤ (w64 (a3 + w64 (w64 (2 * x1) + 1)))) <|
  chk ((w64 (a3 + w64 (w64 (2 * x1) + 1)) : Int) < ((↑(List.map dGRatio.enc a0).length : Int))) <|
  elemD dGRatio x0 (0 + (w64 (a3 + w64 (w64 (2 * x1) + 1))).toNat) fun (c13 : GRatio) =>
  callD r_ratio_Compare (cw f_ratio_Compare [.agg (dGRatio.enc c12), .agg (dGRatio.enc c13)] []) fun (r14 : Int) =>
  brn (!decide (r14 < 0)) (some (.tup [], [(1000, ⟨2, ty_api_Ratio, x0, false⟩)]))
  (chk ((0 : Int) ≤ (w64 (a3 + w64 (w64 (2 * x1) + 1)))) <|
   chk ((w64 (a3 + w64 (w64 (2 * x1) + 1)) : Int) < ((↑(List.map dGRatio.enc a0).length : Int))) <|
   elemD dGRatio x0 (0 + (w64 (a3 + w64 (w64 (2 * x1) + 1))).toNat) fun (c15 : GRatio) =>
   chk ((0 : Int) ≤ (w64 (a3 + x1))) <|
   chk ((w64 (a3 + x1) : Int) < ((↑(List.map dGRatio.enc a0).length : Int))) <|
   elemD dGRatio x0 (0 + (w64 (a3 + x1)).toNat) fun (c16 : GRatio) =>
   chk ((0 : Int) ≤ (w64 (a3 + x1))) <|
   chk ((w64 (a3 + x1) : Int) < ((↑(List.map dGRatio.enc a0).length : Int))) <|
   elemD dGRatio x0 (0 + (w64 (a3 + x1)).toNat) fun (c17 : GRatio) =>
   chk ((0 : Int) ≤ (w64 (a3 + w64 (w64 (2 * x1) + 1)))) <|
   chk ((w64 (a3 + w64 (w64 (2 * x1) + 1)) : Int) < ((↑(List.map dGRatio.enc a0).length : Int))) <|
   elemD dGRatio (List.set x0 (0 + (w64 (a3 + x1)).toNat) (dGRatio.enc c15)) (0 + (w64 (a3 + w64 (w64 (2 * x1) + 1))).toNat) fun (c18 : GRatio) =>
   k_slices_siftDownCmpFunc_api_Ratio_1 a0 a2 a3 (List.set (List.set x0 (0 + (w64 (a3 + x1)).toNat) (dGRatio.enc c15)) (0 + (w64 (a3 + w64 (w64 (2 * x1) + 1))).toNat) (dGRatio.enc c16)) (w64 (w64 (2 * x1) + 1)))) = some y) : k_slices_siftDownCmpFunc_api_Ratio_1005v1 a0 a2 a3 x0 x1 = some y :=
  pt_of zT [5] (by kernel_rfl) h

theorem e_slices_siftDownCmpFunc_api_Ratio (a0 : List GRatio) (a1 : Int) (a2 : Int) (a3 : Int) {y : AV × Mem} (h : (
  k_slices_siftDownCmpFunc_api_Ratio_1 a0 a2 a3 (List.map dGRatio.enc a0) a1) = some y) : cw f_slices_siftDownCmpFunc_api_Ratio [.row 1000 2 0 (List.length (List.map dGRatio.enc a0)), I a1, I a2, I a3, .fn f_ratio_Compare []] [(1000, ⟨2, ty_api_Ratio, List.map dGRatio.enc a0, false⟩)] = some y :=
  callw_tree R_slices_siftDownCmpFunc_api_Ratio zT [5] (by kernel_rfl) (by kernel_rfl) (by kernel_rfl) (by kernel_rfl) (by kernel_rfl) h

theorem e_slices_nextPowerOfTwo (a0 : Int) {y : AV × Mem} (h : (
  callD r_bits_Len (cw f_bits_Len [.v (.int .u64 (wu64 a0))] []) fun (r0 : Int) =>
  chk ((0 : Int) ≤ r0) <|
  some (.v (.int .u64 (wu64 (1 * 2 ^ Min.min r0.toNat 64))), [])) = some y) : cw f_slices_nextPowerOfTwo [I a0] [] = some y :=
  callw_tree R_slices_nextPowerOfTwo zT [] (by kernel_rfl) (by kernel_rfl) (by kernel_rfl) (by kernel_rfl) (by kernel_rfl) h

theorem e_slices_xorshift_Next (a0 : Int) {y : AV × Mem} (h : (
  chk ((0 : Int) ≤ 13) <|
  chk ((0 : Int) ≤ 7) <|
  chk ((0 : Int) ≤ 17) <|
  some (.v (.int .u64 (wu64 (↑((wu64 (↑((wu64 (↑((a0 % Int.ofNat (2 ^ 64)).toNat ^^^ (wu64 (a0 * 2 ^ Min.min (Int.toNat 13) 64) % Int.ofNat (2 ^ 64)).toNat) : Int) % Int.ofNat (2 ^ 64)).toNat ^^^ ((wu64 (↑((a0 % Int.ofNat (2 ^ 64)).toNat ^^^ (wu64 (a0 * 2 ^ Min.min (Int.toNat 13) 64) % Int.ofNat (2 ^ 64)).toNat) : Int)).fdiv (2 ^ Min.min (Int.toNat 7) 64) % Int.ofNat (2 ^ 64)).toNat) : Int) % Int.ofNat (2 ^ 64)).toNat ^^^ (wu64 (wu64 (↑((wu64 (↑((a0 % Int.ofNat (2 ^ 64)).toNat ^^^ (wu64 (a0 * 2 ^ Min.min (Int.toNat 13) 64) % Int.ofNat (2 ^ 64)).toNat) : Int) % Int.ofNat (2 ^ 64)).toNat ^^^ ((wu64 (↑((a0 % Int.ofNat (2 ^ 64)).toNat ^^^ (wu64 (a0 * 2 ^ Min.min (Int.toNat 13) 64) % Int.ofNat (2 ^ 64)).toNat) : Int)).fdiv (2 ^ Min.min (Int.toNat 7) 64) % Int.ofNat (2 ^ 64)).toNat) : Int) * 2 ^ Min.min (Int.toNat 17) 64) % Int.ofNat (2 ^ 64)).toNat) : Int))), [(1000, ⟨1, ty_slices_xorshift, [dI_u64.enc (wu64 (↑((wu64 (↑((wu64 (↑((a0 % Int.ofNat (2 ^ 64)).toNat ^^^ (wu64 (a0 * 2 ^ Min.min (Int.toNat 13) 64) % Int.ofNat (2 ^ 64)).toNat) : Int) % Int.ofNat (2 ^ 64)).toNat ^^^ ((wu64 (↑((a0 % Int.ofNat (2 ^ 64)).toNat ^^^ (wu64 (a0 * 2 ^ Min.min (Int.toNat 13) 64) % Int.ofNat (2 ^ 64)).toNat) : Int)).fdiv (2 ^ Min.min (Int.toNat 7) 64) % Int.ofNat (2 ^ 64)).toNat) : Int) % Int.ofNat (2 ^ 64)).toNat ^^^ (wu64 (wu64 (↑((wu64 (↑((a0 % Int.ofNat (2 ^ 64)).toNat ^^^ (wu64 (a0 * 2 ^ Min.min (Int.toNat 13) 64) % Int.ofNat (2 ^ 64)).toNat) : Int) % Int.ofNat (2 ^ 64)).toNat ^^^ ((wu64 (↑((a0 % Int.ofNat (2 ^ 64)).toNat ^^^ (wu64 (a0 * 2 ^ Min.min (Int.toNat 13) 64) % Int.ofNat (2 ^ 64)).toNat) : Int)).fdiv (2 ^ Min.min (Int.toNat 7) 64) % Int.ofNat (2 ^ 64)).toNat) : Int) * 2 ^ Min.min (Int.toNat 17) 64) % Int.ofNat (2 ^ 64)).toNat) : Int))], true⟩)])) = some y) : cw f_slices_xorshift_Next [.loc 1000 1 0 0] [(1000, ⟨1, ty_slices_xorshift, [dI_u64.enc a0], true⟩)] = some y :=
  callw_tree R_slices_xorshift_Next zT [] (by kernel_rfl) (by kernel_rfl) (by kernel_rfl) (by kernel_rfl) (by kernel_rfl) h

theorem e_slices_medianAdjacentCmpFunc_api_Ratio (a0 : List GRatio) (a1 : Int) (a2 : Int) {y : AV × Mem} (h : (
  callD r_slices_medianCmpFunc_api_Ratio (cw f_slices_medianCmpFunc_api_Ratio [.sl 2 (List.map dGRatio.enc a0), I (w64 (a1 - 1)), I a1, I (w64 (a1 + 1)), .loc 1004 1 0 0, .fn f_ratio_Compare []] [(1004, ⟨1, ty_i64_2, [dI_i64.enc a2], true⟩)]) fun (r0 : Int × Int) =>
  some (I r0.fst, [(1002, ⟨1, ty_i64_2, [dI_i64.enc r0.snd], true⟩)])) = some y) : cw f_slices_medianAdjacentCmpFunc_api_Ratio [.sl 2 (List.map dGRatio.enc a0), I a1, .loc 1002 1 0 0, .fn f_ratio_Compare []] [(1002, ⟨1, ty_i64_2, [dI_i64.enc a2], true⟩)] = some y :=
  callw_tree R_slices_medianAdjacentCmpFunc_api_Ratio zT [] (by kernel_rfl) (by kernel_rfl) (by kernel_rfl) (by kernel_rfl) (by kernel_rfl) h

theorem e_slices_medianCmpFunc_api_Ratio (a0 : List GRatio) (a1 : Int) (a2 : Int) (a3 : Int) (a4 : Int) {y : AV × Mem} (h : (
  callD r_slices_order2CmpFunc_api_Ratio (cw f_slices_order2CmpFunc_api_Ratio [.sl 2 (List.map dGRatio.enc a0), I a1, I a2, .loc 1003 1 0 0, .fn f_ratio_Compare []] [(1003, ⟨1, ty_i64_2, [dI_i64.enc a4], true⟩)]) fun (r0 : (Int × Int) × Int) =>
  callD r_slices_order2CmpFunc_api_Ratio (cw f_slices_order2CmpFunc_api_Ratio [.sl 2 (List.map dGRatio.enc a0), I r0.fst.snd, I a3, .loc 1003 1 0 0, .fn f_ratio_Compare []] [(1003, ⟨1, ty_i64_2, [dI_i64.enc r0.snd], true⟩)]) fun (r1 : (Int × Int) × Int) =>
  callD r_slices_order2CmpFunc_api_Ratio (cw f_slices_order2CmpFunc_api_Ratio [.sl 2 (List.map dGRatio.enc a0), I r0.fst.fst, I r1.fst.fst, .loc 1003 1 0 0, .fn f_ratio_Compare []] [(1003, ⟨1, ty_i64_2, [dI_i64.enc r1.snd], true⟩)]) fun (r2 : (Int × Int) × Int) =>
  some (I r2.fst.snd, [(1004, ⟨1, ty_i64_2, [dI_i64.enc r2.snd], true⟩)])) = some y) : cw f_slices_medianCmpFunc_api_Ratio [.sl 2 (List.map dGRatio.enc a0), I a1, I a2, I a3, .loc 1004 1 0 0, .fn f_ratio_Compare []] [(1004, ⟨1, ty_i64_2, [dI_i64.enc a4], true⟩)] = some y :=
  callw_tree R_slices_medianCmpFunc_api_Ratio zT [] (by kernel_rfl) (by kernel_rfl) (by kernel_rfl) (by kernel_rfl) (by kernel_rfl) h

theorem e_slices_order2CmpFunc_api_Ratio (a0 : List GRatio) (a1 : Int) (a2 : Int) (a3 : Int) {y : AV × Mem} (h : (
  chk ((0 : Int) ≤ a2) <|
  elemD dGRatio (List.map dGRatio.enc a0) a2.toNat fun (c0 : GRatio) =>
  chk ((0 : Int) ≤ a1) <|
  elemD dGRatio (List.map dGRatio.enc a0) a1.toNat fun (c1 : GRatio) =>
  callD r_ratio_Compare (cw f_ratio_Compare [.agg (dGRatio.enc c0), .agg (dGRatio.enc c1)] []) fun (r2 : Int) =>
  brn (decide (r2 < 0)) (some (.tup [I a2, I a1], [(1003, ⟨1, ty_i64_2, [dI_i64.enc (w64 (a3 + 1))], true⟩)]))
  (some (.tup [I a1, I a2], [(1003, ⟨1, ty_i64_2, [dI_i64.enc a3], true⟩)]))) = some y) : cw f_slices_order2CmpFunc_api_Ratio [.sl 2 (List.map dGRatio.enc a0), I a1, I a2, .loc 1003 1 0 0, .fn f_ratio_Compare []] [(1003, ⟨1, ty_i64_2, [dI_i64.enc a3], true⟩)] = some y :=
  callw_tree R_slices_order2CmpFunc_api_Ratio zT [] (by kernel_rfl) (by kernel_rfl) (by kernel_rfl) (by kernel_rfl) (by kernel_rfl) h

end Go.Proofs.Ytapkemilafogjaa
