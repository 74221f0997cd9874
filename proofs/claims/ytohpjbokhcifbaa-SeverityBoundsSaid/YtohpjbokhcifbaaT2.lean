/- What the functions compute, between two cut points: printed by a program, checked by the kernel. -/
import Derived.Test.YtohpjbokhcifbaaAnn
namespace Go.Proofs.Ytohpjbokhcifbaa
open Go.Ab
set_option maxRecDepth 100000
set_option linter.unusedVariables false

theorem e_severity_Bias_1 (a0 : Int) {y : AV × Mem} (h : (
  some (I a0, [])) = some y) : cw f_severity_Bias_1 [I a0] [] = some y :=
  callw_tree R_severity_Bias_1 zT [] (by kernel_rfl) (by kernel_rfl) (by kernel_rfl) (by kernel_rfl) (by kernel_rfl) h

theorem e_severity_Spread_1 (a0 : Int) {y : AV × Mem} (h : (
  some (I (if w64 (0 - a0) > a0 then w64 (0 - a0) else a0), [])) = some y) : cw f_severity_Spread_1 [I a0] [] = some y :=
  callw_tree R_severity_Spread_1 zT [] (by kernel_rfl) (by kernel_rfl) (by kernel_rfl) (by kernel_rfl) (by kernel_rfl) h

theorem e_severity_Agreement_1 (a0 : Int) {y : AV × Mem} (h : (
  brn (a0 == 0) (some (I 1, []))
  (some (I 0, []))) = some y) : cw f_severity_Agreement_1 [I a0] [] = some y :=
  callw_tree R_severity_Agreement_1 zT [] (by kernel_rfl) (by kernel_rfl) (by kernel_rfl) (by kernel_rfl) (by kernel_rfl) h

theorem e_ref01_Compare (a0 : GRatio) (a1 : GRatio) {y : AV × Mem} (h : (
  callD r_ref01_Valid (cw f_ref01_Valid [.agg (dGRatio.enc a0)] []) fun (r0 : Bool) =>
  brn (!r0) (some (I 0, []))
  (callD r_ref01_Valid (cw f_ref01_Valid [.agg (dGRatio.enc a1)] []) fun (r1 : Bool) =>
   brn (!r1) (some (I 0, []))
   (callD r_ref01_Size (cw f_ref01_Size [I a0.Num] []) fun (r2 : Int) =>
    callD r_ref01_Size (cw f_ref01_Size [I a1.Den] []) fun (r3 : Int) =>
    callD r_ref01_Product (cw f_ref01_Product [.v (.int .u64 r2), .v (.int .u64 r3)] []) fun (r4 : Gref01Wide) =>
    callD r_ref01_Size (cw f_ref01_Size [I a1.Num] []) fun (r5 : Int) =>
    callD r_ref01_Size (cw f_ref01_Size [I a0.Den] []) fun (r6 : Int) =>
    callD r_ref01_Product (cw f_ref01_Product [.v (.int .u64 r5), .v (.int .u64 r6)] []) fun (r7 : Gref01Wide) =>
    callD r_ref01_total (cw f_ref01_total [B (decide (a0.Num < 0)), .agg (dGref01Wide.enc r4), B (decide (0 < a1.Num)), .agg (dGref01Wide.enc r7)] []) fun (r8 : Bool × Gref01Wide) =>
    brn (r8.snd.Hi == 0 && (r8.snd.Lo == 0 && true)) (some (I 0, []))
    (brn r8.fst (some (I (-1), []))
     (some (I 1, [])))))) = some y) : cw f_ref01_Compare [.agg (dGRatio.enc a0), .agg (dGRatio.enc a1)] [] = some y :=
  callw_tree R_ref01_Compare zT [] (by kernel_rfl) (by kernel_rfl) (by kernel_rfl) (by kernel_rfl) (by kernel_rfl) h

theorem e_severity_right (a0 : List GJudged) {y : AV × Mem} (h : (
  brn (decide (500 < (↑(List.map dGJudged.enc a0).length : Int))) (some (B false, []))
  (callD r_slices_ContainsFunc_api_Judged_api_Judged (cw f_slices_ContainsFunc_api_Judged_api_Judged [.sl 3 (List.map dGJudged.enc a0), .fn f_severity_right_1 []] []) fun (r0 : Bool) =>
   some (B (!r0), []))) = some y) : cw f_severity_right [.sl 3 (List.map dGJudged.enc a0)] [] = some y :=
  callw_tree R_severity_right zT [] (by kernel_rfl) (by kernel_rfl) (by kernel_rfl) (by kernel_rfl) (by kernel_rfl) h

noncomputable def k_cmp_Or_int_1 (a0 : List Int) (x0 : Int) : Option (AV × Mem) := pt R_cmp_Or_int 1 ⟨[(3, I 0), (6, .sl 1 (List.map dI_i64.enc a0)), (7, I ((↑(List.map dI_i64.enc a0).length : Int))), (8, I x0)], []⟩

theorem t_cmp_Or_int_1 (a0 : List Int) (x0 : Int) {y : AV × Mem} (h : (
  brn (decide (x0 < (↑(List.map dI_i64.enc a0).length : Int))) (chk ((0 : Int) ≤ x0) <|
   elemD dI_i64 (List.map dI_i64.enc a0) x0.toNat fun (c1 : Int) =>
   brn (c1 != 0) (some (I c1, []))
   (k_cmp_Or_int_1 a0 (w64 (x0 + 1))))
  (some (I 0, []))) = some y) : k_cmp_Or_int_1 a0 x0 = some y :=
  pt_of zT [] (by kernel_rfl) h

theorem e_cmp_Or_int (a0 : List Int) {y : AV × Mem} (h : (
  k_cmp_Or_int_1 a0 0) = some y) : cw f_cmp_Or_int [.sl 1 (List.map dI_i64.enc a0)] [] = some y :=
  callw_tree R_cmp_Or_int zT [] (by kernel_rfl) (by kernel_rfl) (by kernel_rfl) (by kernel_rfl) (by kernel_rfl) h

theorem e_ratio_Compare (a0 : GRatio) (a1 : GRatio) {y : AV × Mem} (h : (
  callD r_ratio_Valid (cw f_ratio_Valid [.agg (dGRatio.enc a0)] []) fun (r0 : Bool) =>
  brn (!r0) (some (I 0, []))
  (callD r_ratio_Valid (cw f_ratio_Valid [.agg (dGRatio.enc a1)] []) fun (r1 : Bool) =>
   brn (!r1) (some (I 0, []))
   (callD r_ratio_signedProduct (cw f_ratio_signedProduct [I a0.Num, .v (.int .u64 (wu64 a1.Den))] []) fun (r2 : GratioSigned) =>
    callD r_ratio_signedProduct (cw f_ratio_signedProduct [I a1.Num, .v (.int .u64 (wu64 a0.Den))] []) fun (r3 : GratioSigned) =>
    brn r2.neg (brn r3.neg (callD r_ratio_wide_compare (cw f_ratio_wide_compare [.agg (dGratioWide.enc r3.abs), .agg (dGratioWide.enc r2.abs)] []) fun (r4 : Int) =>
      some (I r4, []))
     (brn r2.neg (some (I (-1), []))
      (brn r3.neg (some (I 1, []))
       (callD r_ratio_wide_compare (cw f_ratio_wide_compare [.agg (dGratioWide.enc r2.abs), .agg (dGratioWide.enc r3.abs)] []) fun (r5 : Int) =>
        some (I r5, [])))))
    (brn r2.neg (some (I (-1), []))
     (brn r3.neg (some (I 1, []))
      (callD r_ratio_wide_compare (cw f_ratio_wide_compare [.agg (dGratioWide.enc r2.abs), .agg (dGratioWide.enc r3.abs)] []) fun (r6 : Int) =>
       some (I r6, []))))))) = some y) : cw f_ratio_Compare [.agg (dGRatio.enc a0), .agg (dGRatio.enc a1)] [] = some y :=
  callw_tree R_ratio_Compare zT [] (by kernel_rfl) (by kernel_rfl) (by kernel_rfl) (by kernel_rfl) (by kernel_rfl) h

theorem e_cmp_Compare_int (a0 : Int) (a1 : Int) {y : AV × Mem} (h : (
  callD r_cmp_isNaN_int (cw f_cmp_isNaN_int [I a0] []) fun (r0 : Bool) =>
  callD r_cmp_isNaN_int (cw f_cmp_isNaN_int [I a1] []) fun (r1 : Bool) =>
  brn r0 (brn r1 (some (I 0, []))
   (some (I (-1), [])))
  (brn r1 (some (I 1, []))
   (brn (decide (a0 < a1)) (some (I (-1), []))
    (brn (decide (a1 < a0)) (some (I 1, []))
     (some (I 0, [])))))) = some y) : cw f_cmp_Compare_int [I a0, I a1] [] = some y :=
  callw_tree R_cmp_Compare_int zT [] (by kernel_rfl) (by kernel_rfl) (by kernel_rfl) (by kernel_rfl) (by kernel_rfl) h

theorem e_severity_zero {y : AV × Mem} (h : (
  some (.agg (dGRatio.enc (⟨0, 1⟩)), [])) = some y) : cw f_severity_zero [] [] = some y :=
  callw_tree R_severity_zero zT [] (by kernel_rfl) (by kernel_rfl) (by kernel_rfl) (by kernel_rfl) (by kernel_rfl) h

theorem e_severity_isMark (a0 : Int) {y : AV × Mem} (h : (
  brn (decide (0 ≤ a0)) (some (B (decide (a0 ≤ 40)), []))
  (some (B false, []))) = some y) : cw f_severity_isMark [I a0] [] = some y :=
  callw_tree R_severity_isMark zT [] (by kernel_rfl) (by kernel_rfl) (by kernel_rfl) (by kernel_rfl) (by kernel_rfl) h

theorem e_ratio_New (a0 : Int) (a1 : Int) {y : AV × Mem} (h : (
  brn (a1 == 0) (some (.tup [.agg (dGRatio.enc (⟨0, 0⟩)), I 2], []))
  (callD r_ratio_magnitude (cw f_ratio_magnitude [I a0] []) fun (r0 : Int) =>
   callD r_ratio_magnitude (cw f_ratio_magnitude [I a1] []) fun (r1 : Int) =>
   callD r_ratio_reduced (cw f_ratio_reduced [.agg (dGratioSigned.enc (⟨!decide (a0 < 0) == decide (a1 < 0), ⟨0, r0⟩⟩)), .v (.int .u64 r1)] []) fun (r2 : GRatio × Int) =>
   some (.tup [.agg (dGRatio.enc r2.fst), I r2.snd], []))) = some y) : cw f_ratio_New [I a0, I a1] [] = some y :=
  callw_tree R_ratio_New zT [] (by kernel_rfl) (by kernel_rfl) (by kernel_rfl) (by kernel_rfl) (by kernel_rfl) h

theorem e_ref01_Valid (a0 : GRatio) {y : AV × Mem} (h : (
  brn (decide (a0.Den < 1)) (some (B false, []))
  (brn (decide (1152921504606846976 < a0.Den)) (some (B false, []))
   (brn (decide (a0.Num < -1152921504606846976)) (some (B false, []))
    (brn (decide (1152921504606846976 < a0.Num)) (some (B false, []))
     (callD r_ref01_Size (cw f_ref01_Size [I a0.Num] []) fun (r0 : Int) =>
      callD r_ref01_Size (cw f_ref01_Size [I a0.Den] []) fun (r1 : Int) =>
      callD r_ref01_Divisor (cw f_ref01_Divisor [.agg (dGref01Wide.enc (⟨0, r0⟩)), .agg (dGref01Wide.enc (⟨0, r1⟩))] []) fun (r2 : Gref01Wide) =>
      some (B (r2.Hi == 0 && (r2.Lo == 1 && true)), [])))))) = some y) : cw f_ref01_Valid [.agg (dGRatio.enc a0)] [] = some y :=
  callw_tree R_ref01_Valid zT [] (by kernel_rfl) (by kernel_rfl) (by kernel_rfl) (by kernel_rfl) (by kernel_rfl) h

theorem e_ref01_total (a0 : Bool) (a1 : Gref01Wide) (a2 : Bool) (a3 : Gref01Wide) {y : AV × Mem} (h : (
  brn (a0 == a2) (callD r_ref01_Plus (cw f_ref01_Plus [.agg (dGref01Wide.enc a1), .agg (dGref01Wide.enc a3)] []) fun (r0 : Gref01Wide) =>
   some (.tup [B a0, .agg (dGref01Wide.enc r0)], []))
  (callD r_ref01_Order (cw f_ref01_Order [.agg (dGref01Wide.enc a1), .agg (dGref01Wide.enc a3)] []) fun (r1 : Int) =>
   brn (decide (0 ≤ r1)) (callD r_ref01_Minus (cw f_ref01_Minus [.agg (dGref01Wide.enc a1), .agg (dGref01Wide.enc a3)] []) fun (r2 : Gref01Wide) =>
    some (.tup [B a0, .agg (dGref01Wide.enc r2)], []))
   (callD r_ref01_Minus (cw f_ref01_Minus [.agg (dGref01Wide.enc a3), .agg (dGref01Wide.enc a1)] []) fun (r3 : Gref01Wide) =>
    some (.tup [B a2, .agg (dGref01Wide.enc r3)], [])))) = some y) : cw f_ref01_total [B a0, .agg (dGref01Wide.enc a1), B a2, .agg (dGref01Wide.enc a3)] [] = some y :=
  callw_tree R_ref01_total zT [] (by kernel_rfl) (by kernel_rfl) (by kernel_rfl) (by kernel_rfl) (by kernel_rfl) h

theorem e_ref01_Product (a0 : Int) (a1 : Int) {y : AV × Mem} (h : (
  callD r_bits_Mul64 (cw f_bits_Mul64 [.v (.int .u64 a0), .v (.int .u64 a1)] []) fun (r0 : Int × Int) =>
  some (.agg (dGref01Wide.enc (⟨r0.fst, r0.snd⟩)), [])) = some y) : cw f_ref01_Product [.v (.int .u64 a0), .v (.int .u64 a1)] [] = some y :=
  callw_tree R_ref01_Product zT [] (by kernel_rfl) (by kernel_rfl) (by kernel_rfl) (by kernel_rfl) (by kernel_rfl) h

theorem e_ref01_Size (a0 : Int) {y : AV × Mem} (h : (
  brn (decide (a0 < 0)) (some (.v (.int .u64 (wu64 (wu64 (w64 (0 - w64 (a0 + 1))) + 1))), []))
  (some (.v (.int .u64 (wu64 a0)), []))) = some y) : cw f_ref01_Size [I a0] [] = some y :=
  callw_tree R_ref01_Size zT [] (by kernel_rfl) (by kernel_rfl) (by kernel_rfl) (by kernel_rfl) (by kernel_rfl) h

theorem e_slices_ContainsFunc_api_Judged_api_Judged (a0 : List GJudged) {y : AV × Mem} (h : (
  callD r_slices_IndexFunc_api_Judged_api_Judged (cw f_slices_IndexFunc_api_Judged_api_Judged [.sl 3 (List.map dGJudged.enc a0), .fn f_severity_right_1 []] []) fun (r0 : Int) =>
  some (B (decide (0 ≤ r0)), [])) = some y) : cw f_slices_ContainsFunc_api_Judged_api_Judged [.sl 3 (List.map dGJudged.enc a0), .fn f_severity_right_1 []] [] = some y :=
  callw_tree R_slices_ContainsFunc_api_Judged_api_Judged zT [] (by kernel_rfl) (by kernel_rfl) (by kernel_rfl) (by kernel_rfl) (by kernel_rfl) h

theorem e_severity_right_1 (a0 : GJudged) {y : AV × Mem} (h : (
  brn (decide (a0.Marker < 1)) (some (B true, []))
  (brn (decide (99 < a0.Marker)) (some (B true, []))
   (callD r_severity_isMark (cw f_severity_isMark [I a0.Value] []) fun (r0 : Bool) =>
    brn (!r0) (some (B true, []))
    (callD r_severity_isMark (cw f_severity_isMark [I a0.Final] []) fun (r1 : Bool) =>
     some (B (!r1), []))))) = some y) : cw f_severity_right_1 [.agg (dGJudged.enc a0)] [] = some y :=
  callw_tree R_severity_right_1 zT [] (by kernel_rfl) (by kernel_rfl) (by kernel_rfl) (by kernel_rfl) (by kernel_rfl) h

theorem e_ratio_Valid (a0 : GRatio) {y : AV × Mem} (h : (
  brn (decide (a0.Den < 1)) (some (B false, []))
  (brn (decide (1152921504606846976 < a0.Den)) (some (B false, []))
   (brn (decide (a0.Num < -1152921504606846976)) (some (B false, []))
    (brn (decide (1152921504606846976 < a0.Num)) (some (B false, []))
     (callD r_ratio_magnitude (cw f_ratio_magnitude [I a0.Num] []) fun (r0 : Int) =>
      callD r_ratio_gcd (cw f_ratio_gcd [.v (.int .u64 r0), .v (.int .u64 (wu64 a0.Den))] []) fun (r1 : Int) =>
      some (B (r1 == 1), [])))))) = some y) : cw f_ratio_Valid [.agg (dGRatio.enc a0)] [] = some y :=
  callw_tree R_ratio_Valid zT [] (by kernel_rfl) (by kernel_rfl) (by kernel_rfl) (by kernel_rfl) (by kernel_rfl) h

theorem e_ratio_signedProduct (a0 : Int) (a1 : Int) {y : AV × Mem} (h : (
  callD r_ratio_magnitude (cw f_ratio_magnitude [I a0] []) fun (r0 : Int) =>
  callD r_ratio_product (cw f_ratio_product [.v (.int .u64 r0), .v (.int .u64 a1)] []) fun (r1 : GratioWide) =>
  some (.agg (dGratioSigned.enc (⟨decide (a0 < 0), ⟨r1.hi, r1.lo⟩⟩)), [])) = some y) : cw f_ratio_signedProduct [I a0, .v (.int .u64 a1)] [] = some y :=
  callw_tree R_ratio_signedProduct zT [] (by kernel_rfl) (by kernel_rfl) (by kernel_rfl) (by kernel_rfl) (by kernel_rfl) h

theorem e_ratio_wide_compare (a0 : GratioWide) (a1 : GratioWide) {y : AV × Mem} (h : (
  callD r_cmp_Compare_uint64 (cw f_cmp_Compare_uint64 [.v (.int .u64 a0.hi), .v (.int .u64 a1.hi)] []) fun (r0 : Int) =>
  brn (r0 != 0) (some (I r0, []))
  (callD r_cmp_Compare_uint64 (cw f_cmp_Compare_uint64 [.v (.int .u64 a0.lo), .v (.int .u64 a1.lo)] []) fun (r1 : Int) =>
   some (I r1, []))) = some y) : cw f_ratio_wide_compare [.agg (dGratioWide.enc a0), .agg (dGratioWide.enc a1)] [] = some y :=
  callw_tree R_ratio_wide_compare zT [] (by kernel_rfl) (by kernel_rfl) (by kernel_rfl) (by kernel_rfl) (by kernel_rfl) h

theorem e_cmp_isNaN_int (a0 : Int) {y : AV × Mem} (h : (
  some (B (a0 != a0), [])) = some y) : cw f_cmp_isNaN_int [I a0] [] = some y :=
  callw_tree R_cmp_isNaN_int zT [] (by kernel_rfl) (by kernel_rfl) (by kernel_rfl) (by kernel_rfl) (by kernel_rfl) h

theorem e_ratio_reduced (a0 : GratioSigned) (a1 : Int) {y : AV × Mem} (h : (
  callD r_ratio_wide_mod (cw f_ratio_wide_mod [.agg (dGratioWide.enc a0.abs), .v (.int .u64 a1)] []) fun (r0 : Int) =>
  callD r_ratio_gcd (cw f_ratio_gcd [.v (.int .u64 r0), .v (.int .u64 a1)] []) fun (r1 : Int) =>
  callD r_ratio_wide_over (cw f_ratio_wide_over [.agg (dGratioWide.enc a0.abs), .v (.int .u64 r1)] []) fun (r2 : GratioWide) =>
  chk ((r1 : Int) ≠ 0) <|
  callD r_ratio_fitted (cw f_ratio_fitted [B a0.neg, .agg (dGratioWide.enc r2), .agg (dGratioWide.enc (⟨0, wu64 (a1.tdiv r1)⟩))] []) fun (r3 : GRatio × Int) =>
  some (.tup [.agg (dGRatio.enc r3.fst), I r3.snd], [])) = some y) : cw f_ratio_reduced [.agg (dGratioSigned.enc a0), .v (.int .u64 a1)] [] = some y :=
  callw_tree R_ratio_reduced zT [] (by kernel_rfl) (by kernel_rfl) (by kernel_rfl) (by kernel_rfl) (by kernel_rfl) h

theorem e_ratio_magnitude (a0 : Int) {y : AV × Mem} (h : (
  brn (decide (a0 < 0)) (some (.v (.int .u64 (wu64 (0 - wu64 a0))), []))
  (some (.v (.int .u64 (wu64 a0)), []))) = some y) : cw f_ratio_magnitude [I a0] [] = some y :=
  callw_tree R_ratio_magnitude zT [] (by kernel_rfl) (by kernel_rfl) (by kernel_rfl) (by kernel_rfl) (by kernel_rfl) h

noncomputable def k_ref01_Divisor_1 (x0 : Gref01Wide) (x1 : Gref01Wide) : Option (AV × Mem) := pt R_ref01_Divisor 1 ⟨[(2, .loc 2 2 0 0), (3, .loc 3 2 0 0), (4, .loc 4 2 0 0)], [(2, ⟨2, ty_ref01_Wide, [dGref01Wide.enc x0], true⟩), (3, ⟨2, ty_ref01_Wide, [dGref01Wide.enc x1], true⟩), (4, ⟨2, ty_ref01_Wide, [dGref01Wide.enc (⟨0, 0⟩)], true⟩)]⟩

theorem t_ref01_Divisor_1 (x0 : Gref01Wide) (x1 : Gref01Wide) {y : AV × Mem} (h : (
  brn (!(x1.Hi == 0 && (x1.Lo == 0 && true))) (callD r_ref01_Divide (cw f_ref01_Divide [.agg (dGref01Wide.enc x0), .agg (dGref01Wide.enc x1)] []) fun (r2 : Gref01Wide × Gref01Wide) =>
   k_ref01_Divisor_1 x1 r2.snd)
  (some (.agg (dGref01Wide.enc x0), []))) = some y) : k_ref01_Divisor_1 x0 x1 = some y :=
  pt_of zT [] (by kernel_rfl) h

theorem e_ref01_Divisor (a0 : Gref01Wide) (a1 : Gref01Wide) {y : AV × Mem} (h : (
  k_ref01_Divisor_1 a0 a1) = some y) : cw f_ref01_Divisor [.agg (dGref01Wide.enc a0), .agg (dGref01Wide.enc a1)] [] = some y :=
  callw_tree R_ref01_Divisor zT [] (by kernel_rfl) (by kernel_rfl) (by kernel_rfl) (by kernel_rfl) (by kernel_rfl) h

theorem e_ref01_Plus (a0 : Gref01Wide) (a1 : Gref01Wide) {y : AV × Mem} (h : (
  brn (Int.ofNat ((a0.Lo.toNat + a1.Lo.toNat + Int.toNat 0) / 2 ^ 64) == 0) (some (.agg (dGref01Wide.enc (⟨Int.ofNat ((a0.Hi.toNat + a1.Hi.toNat + Int.toNat 0) % 2 ^ 64), Int.ofNat ((a0.Lo.toNat + a1.Lo.toNat + Int.toNat 0) % 2 ^ 64)⟩)), []))
  (brn (Int.ofNat ((a0.Lo.toNat + a1.Lo.toNat + Int.toNat 0) / 2 ^ 64) == 1) (some (.agg (dGref01Wide.enc (⟨Int.ofNat ((a0.Hi.toNat + a1.Hi.toNat + Int.toNat 1) % 2 ^ 64), Int.ofNat ((a0.Lo.toNat + a1.Lo.toNat + Int.toNat 0) % 2 ^ 64)⟩)), []))
   (none))) = some y) : cw f_ref01_Plus [.agg (dGref01Wide.enc a0), .agg (dGref01Wide.enc a1)] [] = some y :=
  callw_tree R_ref01_Plus zT [] (by kernel_rfl) (by kernel_rfl) (by kernel_rfl) (by kernel_rfl) (by kernel_rfl) h

theorem e_ref01_Order (a0 : Gref01Wide) (a1 : Gref01Wide) {y : AV × Mem} (h : (
  brn (decide (a0.Hi < a1.Hi)) (some (I (-1), []))
  (brn (a0.Hi == a1.Hi) (brn (decide (a0.Lo < a1.Lo)) (some (I (-1), []))
    (brn (a0.Hi == a1.Hi && (a0.Lo == a1.Lo && true)) (some (I 0, []))
     (some (I 1, []))))
   (brn (a0.Hi == a1.Hi && (a0.Lo == a1.Lo && true)) (some (I 0, []))
    (some (I 1, []))))) = some y) : cw f_ref01_Order [.agg (dGref01Wide.enc a0), .agg (dGref01Wide.enc a1)] [] = some y :=
  callw_tree R_ref01_Order zT [] (by kernel_rfl) (by kernel_rfl) (by kernel_rfl) (by kernel_rfl) (by kernel_rfl) h

theorem e_ref01_Minus (a0 : Gref01Wide) (a1 : Gref01Wide) {y : AV × Mem} (h : (
  brn (Int.ofNat (if a0.Lo.toNat < a1.Lo.toNat + Int.toNat 0 then 1 else 0) == 0) (some (.agg (dGref01Wide.enc (⟨Int.ofNat ((a0.Hi.toNat + 2 ^ 64 - a1.Hi.toNat - Int.toNat 0) % 2 ^ 64), Int.ofNat ((a0.Lo.toNat + 2 ^ 64 - a1.Lo.toNat - Int.toNat 0) % 2 ^ 64)⟩)), []))
  (brn (Int.ofNat (if a0.Lo.toNat < a1.Lo.toNat + Int.toNat 0 then 1 else 0) == 1) (some (.agg (dGref01Wide.enc (⟨Int.ofNat ((a0.Hi.toNat + 2 ^ 64 - a1.Hi.toNat - Int.toNat 1) % 2 ^ 64), Int.ofNat ((a0.Lo.toNat + 2 ^ 64 - a1.Lo.toNat - Int.toNat 0) % 2 ^ 64)⟩)), []))
   (none))) = some y) : cw f_ref01_Minus [.agg (dGref01Wide.enc a0), .agg (dGref01Wide.enc a1)] [] = some y :=
  callw_tree R_ref01_Minus zT [] (by kernel_rfl) (by kernel_rfl) (by kernel_rfl) (by kernel_rfl) (by kernel_rfl) h

theorem e_bits_Mul64 (a0 : Int) (a1 : Int) {y : AV × Mem} (h : (
  chk ((0 : Int) ≤ 32) <|
  chk ((0 : Int) ≤ 32) <|
  chk ((0 : Int) ≤ 32) <|
  chk ((0 : Int) ≤ 32) <|
  chk ((0 : Int) ≤ 32) <|
  some (.tup [.v (.int .u64 (wu64 (wu64 (wu64 (a0.fdiv (2 ^ Min.min (Int.toNat 32) 64) * a1.fdiv (2 ^ Min.min (Int.toNat 32) 64)) + (wu64 (wu64 (a0.fdiv (2 ^ Min.min (Int.toNat 32) 64) * wu64 (↑((a1 % Int.ofNat (2 ^ 64)).toNat &&& (4294967295 % Int.ofNat (2 ^ 64)).toNat) : Int)) + (wu64 (wu64 (↑((a0 % Int.ofNat (2 ^ 64)).toNat &&& (4294967295 % Int.ofNat (2 ^ 64)).toNat) : Int) * wu64 (↑((a1 % Int.ofNat (2 ^ 64)).toNat &&& (4294967295 % Int.ofNat (2 ^ 64)).toNat) : Int))).fdiv (2 ^ Min.min (Int.toNat 32) 64))).fdiv (2 ^ Min.min (Int.toNat 32) 64)) + (wu64 (wu64 (↑((wu64 (wu64 (a0.fdiv (2 ^ Min.min (Int.toNat 32) 64) * wu64 (↑((a1 % Int.ofNat (2 ^ 64)).toNat &&& (4294967295 % Int.ofNat (2 ^ 64)).toNat) : Int)) + (wu64 (wu64 (↑((a0 % Int.ofNat (2 ^ 64)).toNat &&& (4294967295 % Int.ofNat (2 ^ 64)).toNat) : Int) * wu64 (↑((a1 % Int.ofNat (2 ^ 64)).toNat &&& (4294967295 % Int.ofNat (2 ^ 64)).toNat) : Int))).fdiv (2 ^ Min.min (Int.toNat 32) 64)) % Int.ofNat (2 ^ 64)).toNat &&& (4294967295 % Int.ofNat (2 ^ 64)).toNat) : Int) + wu64 (wu64 (↑((a0 % Int.ofNat (2 ^ 64)).toNat &&& (4294967295 % Int.ofNat (2 ^ 64)).toNat) : Int) * a1.fdiv (2 ^ Min.min (Int.toNat 32) 64)))).fdiv (2 ^ Min.min (Int.toNat 32) 64)))), .v (.int .u64 (wu64 (a0 * a1)))], [])) = some y) : cw f_bits_Mul64 [.v (.int .u64 a0), .v (.int .u64 a1)] [] = some y :=
  callw_tree R_bits_Mul64 zT [] (by kernel_rfl) (by kernel_rfl) (by kernel_rfl) (by kernel_rfl) (by kernel_rfl) h

noncomputable def k_slices_IndexFunc_api_Judged_api_Judged_1 (a0 : List GJudged) (x0 : Int) : Option (AV × Mem) := pt R_slices_IndexFunc_api_Judged_api_Judged 1 ⟨[(0, .sl 3 (List.map dGJudged.enc a0)), (1, .fn f_severity_right_1 []), (7, I ((↑(List.map dGJudged.enc a0).length : Int))), (8, I x0)], []⟩

theorem t_slices_IndexFunc_api_Judged_api_Judged_1 (a0 : List GJudged) (x0 : Int) {y : AV × Mem} (h : (
  brn (decide (x0 < (↑(List.map dGJudged.enc a0).length : Int))) (chk ((0 : Int) ≤ x0) <|
   elemD dGJudged (List.map dGJudged.enc a0) x0.toNat fun (c1 : GJudged) =>
   callD r_severity_right_1 (cw f_severity_right_1 [.agg (dGJudged.enc c1)] []) fun (r2 : Bool) =>
   brn r2 (some (I x0, []))
   (k_slices_IndexFunc_api_Judged_api_Judged_1 a0 (w64 (x0 + 1))))
  (some (I (-1), []))) = some y) : k_slices_IndexFunc_api_Judged_api_Judged_1 a0 x0 = some y :=
  pt_of zT [] (by kernel_rfl) h

theorem e_slices_IndexFunc_api_Judged_api_Judged (a0 : List GJudged) {y : AV × Mem} (h : (
  k_slices_IndexFunc_api_Judged_api_Judged_1 a0 0) = some y) : cw f_slices_IndexFunc_api_Judged_api_Judged [.sl 3 (List.map dGJudged.enc a0), .fn f_severity_right_1 []] [] = some y :=
  callw_tree R_slices_IndexFunc_api_Judged_api_Judged zT [] (by kernel_rfl) (by kernel_rfl) (by kernel_rfl) (by kernel_rfl) (by kernel_rfl) h

noncomputable def k_ratio_gcd_1 (x0 : Int) (x1 : Int) : Option (AV × Mem) := pt R_ratio_gcd 1 ⟨[(0, .v (.int .u64 x0)), (1, .v (.int .u64 x1))], []⟩

theorem t_ratio_gcd_1 (x0 : Int) (x1 : Int) {y : AV × Mem} (h : (
  brn (x1 != 0) (chk ((x1 : Int) ≠ 0) <|
   k_ratio_gcd_1 x1 (x0.tmod x1))
  (some (.v (.int .u64 x0), []))) = some y) : k_ratio_gcd_1 x0 x1 = some y :=
  pt_of zT [] (by kernel_rfl) h

theorem e_ratio_gcd (a0 : Int) (a1 : Int) {y : AV × Mem} (h : (
  k_ratio_gcd_1 a0 a1) = some y) : cw f_ratio_gcd [.v (.int .u64 a0), .v (.int .u64 a1)] [] = some y :=
  callw_tree R_ratio_gcd zT [] (by kernel_rfl) (by kernel_rfl) (by kernel_rfl) (by kernel_rfl) (by kernel_rfl) h

theorem e_ratio_product (a0 : Int) (a1 : Int) {y : AV × Mem} (h : (
  callD r_bits_Mul64 (cw f_bits_Mul64 [.v (.int .u64 a0), .v (.int .u64 a1)] []) fun (r0 : Int × Int) =>
  some (.agg (dGratioWide.enc (⟨r0.fst, r0.snd⟩)), [])) = some y) : cw f_ratio_product [.v (.int .u64 a0), .v (.int .u64 a1)] [] = some y :=
  callw_tree R_ratio_product zT [] (by kernel_rfl) (by kernel_rfl) (by kernel_rfl) (by kernel_rfl) (by kernel_rfl) h

theorem e_cmp_Compare_uint64 (a0 : Int) (a1 : Int) {y : AV × Mem} (h : (
  callD r_cmp_isNaN_uint64 (cw f_cmp_isNaN_uint64 [.v (.int .u64 a0)] []) fun (r0 : Bool) =>
  callD r_cmp_isNaN_uint64 (cw f_cmp_isNaN_uint64 [.v (.int .u64 a1)] []) fun (r1 : Bool) =>
  brn r0 (brn r1 (some (I 0, []))
   (some (I (-1), [])))
  (brn r1 (some (I 1, []))
   (brn (decide (a0 < a1)) (some (I (-1), []))
    (brn (decide (a1 < a0)) (some (I 1, []))
     (some (I 0, [])))))) = some y) : cw f_cmp_Compare_uint64 [.v (.int .u64 a0), .v (.int .u64 a1)] [] = some y :=
  callw_tree R_cmp_Compare_uint64 zT [] (by kernel_rfl) (by kernel_rfl) (by kernel_rfl) (by kernel_rfl) (by kernel_rfl) h

theorem e_ratio_wide_mod (a0 : GratioWide) (a1 : Int) {y : AV × Mem} (h : (
  callD r_bits_Rem64 (cw f_bits_Rem64 [.v (.int .u64 a0.hi), .v (.int .u64 a0.lo), .v (.int .u64 a1)] []) fun (r0 : Int) =>
  some (.v (.int .u64 r0), [])) = some y) : cw f_ratio_wide_mod [.agg (dGratioWide.enc a0), .v (.int .u64 a1)] [] = some y :=
  callw_tree R_ratio_wide_mod zT [] (by kernel_rfl) (by kernel_rfl) (by kernel_rfl) (by kernel_rfl) (by kernel_rfl) h

theorem e_ratio_fitted (a0 : Bool) (a1 : GratioWide) (a2 : GratioWide) {y : AV × Mem} (h : (
  brn (a1.hi != 0) (some (.tup [.agg (dGRatio.enc (⟨0, 0⟩)), I 6], []))
  (brn (a2.hi != 0) (some (.tup [.agg (dGRatio.enc (⟨0, 0⟩)), I 6], []))
   (brn (decide (1152921504606846976 < a1.lo)) (some (.tup [.agg (dGRatio.enc (⟨0, 0⟩)), I 6], []))
    (brn (decide (1152921504606846976 < a2.lo)) (some (.tup [.agg (dGRatio.enc (⟨0, 0⟩)), I 6], []))
     (brn a0 (some (.tup [.agg (dGRatio.enc (⟨w64 (0 - w64 a1.lo), w64 a2.lo⟩)), I 0], []))
      (some (.tup [.agg (dGRatio.enc (⟨w64 a1.lo, w64 a2.lo⟩)), I 0], []))))))) = some y) : cw f_ratio_fitted [B a0, .agg (dGratioWide.enc a1), .agg (dGratioWide.enc a2)] [] = some y :=
  callw_tree R_ratio_fitted zT [] (by kernel_rfl) (by kernel_rfl) (by kernel_rfl) (by kernel_rfl) (by kernel_rfl) h

theorem e_ratio_wide_over (a0 : GratioWide) (a1 : Int) {y : AV × Mem} (h : (
  chk ((a1 : Int) ≠ 0) <|
  chk ((a1 : Int) ≠ 0) <|
  callD r_bits_Div64 (cw f_bits_Div64 [.v (.int .u64 (a0.hi.tmod a1)), .v (.int .u64 a0.lo), .v (.int .u64 a1)] []) fun (r0 : Int × Int) =>
  some (.agg (dGratioWide.enc (⟨wu64 (a0.hi.tdiv a1), r0.fst⟩)), [])) = some y) : cw f_ratio_wide_over [.agg (dGratioWide.enc a0), .v (.int .u64 a1)] [] = some y :=
  callw_tree R_ratio_wide_over zT [] (by kernel_rfl) (by kernel_rfl) (by kernel_rfl) (by kernel_rfl) (by kernel_rfl) h

noncomputable def k_ref01_Divide_1 (a0 : Gref01Wide) (a1 : Gref01Wide) (x0 : Gref01Wide) (x1 : Gref01Wide) (x2 : Int) : Option (AV × Mem) := pt R_ref01_Divide 1 ⟨[(2, .loc 2 2 0 0), (3, .loc 3 2 0 0), (4, .loc 4 2 0 0), (5, .loc 5 2 0 0), (6, .loc 6 2 0 0), (7, .loc 7 2 0 0), (8, I x2)], [(2, ⟨2, ty_ref01_Wide, [dGref01Wide.enc a0], true⟩), (3, ⟨2, ty_ref01_Wide, [dGref01Wide.enc a1], true⟩), (4, ⟨2, ty_ref01_Wide, [dGref01Wide.enc (⟨0, 0⟩)], true⟩), (5, ⟨2, ty_ref01_Wide, [dGref01Wide.enc (⟨0, 0⟩)], true⟩), (6, ⟨2, ty_ref01_Wide, [dGref01Wide.enc x0], true⟩), (7, ⟨2, ty_ref01_Wide, [dGref01Wide.enc x1], true⟩)]⟩

noncomputable def k_ref01_Divide_1010 (a0 : Gref01Wide) (a1 : Gref01Wide) (x0 : Gref01Wide) (x1 : Gref01Wide) (x2 : Int) : Option (AV × Mem) := pt R_ref01_Divide 1010 ⟨[(2, .loc 2 2 0 0), (3, .loc 3 2 0 0), (4, .loc 4 2 0 0), (5, .loc 5 2 0 0), (6, .loc 6 2 0 0), (7, .loc 7 2 0 0), (8, I x2), (9, .v (.int .u64 (wu64 (↑((a0.Hi.fdiv (2 ^ Min.min (wu64 (w64 (x2 - 64))).toNat 64) % Int.ofNat (2 ^ 64)).toNat &&& (1 % Int.ofNat (2 ^ 64)).toNat) : Int))))], [(2, ⟨2, ty_ref01_Wide, [dGref01Wide.enc a0], true⟩), (3, ⟨2, ty_ref01_Wide, [dGref01Wide.enc a1], true⟩), (4, ⟨2, ty_ref01_Wide, [dGref01Wide.enc (⟨0, 0⟩)], true⟩), (5, ⟨2, ty_ref01_Wide, [dGref01Wide.enc (⟨0, 0⟩)], true⟩), (6, ⟨2, ty_ref01_Wide, [dGref01Wide.enc x0], true⟩), (7, ⟨2, ty_ref01_Wide, [dGref01Wide.enc x1], true⟩)]⟩

noncomputable def k_ref01_Divide_1010v1 (a0 : Gref01Wide) (a1 : Gref01Wide) (x0 : Gref01Wide) (x1 : Gref01Wide) (x2 : Int) : Option (AV × Mem) := pt R_ref01_Divide 1010 ⟨[(2, .loc 2 2 0 0), (3, .loc 3 2 0 0), (4, .loc 4 2 0 0), (5, .loc 5 2 0 0), (6, .loc 6 2 0 0), (7, .loc 7 2 0 0), (8, I x2), (9, .v (.int .u64 (wu64 (↑((a0.Lo.fdiv (2 ^ Min.min (wu64 (x2.tmod 64)).toNat 64) % Int.ofNat (2 ^ 64)).toNat &&& (1 % Int.ofNat (2 ^ 64)).toNat) : Int)))), (45, B false)], [(2, ⟨2, ty_ref01_Wide, [dGref01Wide.enc a0], true⟩), (3, ⟨2, ty_ref01_Wide, [dGref01Wide.enc a1], true⟩), (4, ⟨2, ty_ref01_Wide, [dGref01Wide.enc (⟨0, 0⟩)], true⟩), (5, ⟨2, ty_ref01_Wide, [dGref01Wide.enc (⟨0, 0⟩)], true⟩), (6, ⟨2, ty_ref01_Wide, [dGref01Wide.enc x0], true⟩), (7, ⟨2, ty_ref01_Wide, [dGref01Wide.enc x1], true⟩)]⟩

noncomputable def k_ref01_Divide_1015 (a0 : Gref01Wide) (a1 : Gref01Wide) (x2 : Int) (x5 : Gref01Wide) (x6 : Gref01Wide) : Option (AV × Mem) := pt R_ref01_Divide 1015 ⟨[(2, .loc 2 2 0 0), (3, .loc 3 2 0 0), (4, .loc 4 2 0 0), (5, .loc 5 2 0 0), (6, .loc 6 2 0 0), (7, .loc 7 2 0 0), (8, I x2), (72, B true)], [(2, ⟨2, ty_ref01_Wide, [dGref01Wide.enc a0], true⟩), (3, ⟨2, ty_ref01_Wide, [dGref01Wide.enc a1], true⟩), (4, ⟨2, ty_ref01_Wide, [dGref01Wide.enc (⟨0, 0⟩)], true⟩), (5, ⟨2, ty_ref01_Wide, [dGref01Wide.enc (⟨0, 0⟩)], true⟩), (6, ⟨2, ty_ref01_Wide, [dGref01Wide.enc x5], true⟩), (7, ⟨2, ty_ref01_Wide, [dGref01Wide.enc x6], true⟩)]⟩

theorem t_ref01_Divide_1 (a0 : Gref01Wide) (a1 : Gref01Wide) (x0 : Gref01Wide) (x1 : Gref01Wide) (x2 : Int) {y : AV × Mem} (h : (
  brn (decide (0 ≤ x2)) (chk ((64 : Int) ≠ 0) <|
   chk ((0 : Int) ≤ (wu64 (x2.tmod 64))) <|
   brn (decide (64 ≤ x2)) (chk ((0 : Int) ≤ (wu64 (w64 (x2 - 64)))) <|
    k_ref01_Divide_1010 a0 a1 x0 x1 x2)
   (k_ref01_Divide_1010v1 a0 a1 x0 x1 x2))
  (some (.tup [.agg (dGref01Wide.enc x0), .agg (dGref01Wide.enc x1)], []))) = some y) : k_ref01_Divide_1 a0 a1 x0 x1 x2 = some y :=
  pt_of zT [15, 10] (by kernel_rfl) h

theorem t_ref01_Divide_1010 (a0 : Gref01Wide) (a1 : Gref01Wide) (x0 : Gref01Wide) (x1 : Gref01Wide) (x2 : Int) {y : AV × Mem} (h : (
  chk ((0 : Int) ≤ 63) <|
  callD r_ref01_Twice (cw f_ref01_Twice [.agg (dGref01Wide.enc x1)] []) fun (r3 : Gref01Wide) =>
  callD r_ref01_Twice (cw f_ref01_Twice [.agg (dGref01Wide.enc x0)] []) fun (r4 : Gref01Wide) =>
  brn (x1.Hi.fdiv (2 ^ Min.min (Int.toNat 63) 64) == 1) (k_ref01_Divide_1015 a0 a1 x2 r4 (⟨r3.Hi, wu64 (↑((r3.Lo % Int.ofNat (2 ^ 64)).toNat ||| (wu64 (↑((a0.Hi.fdiv (2 ^ Min.min (wu64 (w64 (x2 - 64))).toNat 64) % Int.ofNat (2 ^ 64)).toNat &&& (1 % Int.ofNat (2 ^ 64)).toNat) : Int) % Int.ofNat (2 ^ 64)).toNat) : Int)⟩))
  (callD r_ref01_Order (cw f_ref01_Order [.agg (dGref01Wide.enc (⟨r3.Hi, wu64 (↑((r3.Lo % Int.ofNat (2 ^ 64)).toNat ||| (wu64 (↑((a0.Hi.fdiv (2 ^ Min.min (wu64 (w64 (x2 - 64))).toNat 64) % Int.ofNat (2 ^ 64)).toNat &&& (1 % Int.ofNat (2 ^ 64)).toNat) : Int) % Int.ofNat (2 ^ 64)).toNat) : Int)⟩)), .agg (dGref01Wide.enc a1)] []) fun (r7 : Int) =>
   brn (decide (0 ≤ r7)) (k_ref01_Divide_1015 a0 a1 x2 r4 (⟨r3.Hi, wu64 (↑((r3.Lo % Int.ofNat (2 ^ 64)).toNat ||| (wu64 (↑((a0.Hi.fdiv (2 ^ Min.min (wu64 (w64 (x2 - 64))).toNat 64) % Int.ofNat (2 ^ 64)).toNat &&& (1 % Int.ofNat (2 ^ 64)).toNat) : Int) % Int.ofNat (2 ^ 64)).toNat) : Int)⟩))
   (k_ref01_Divide_1 a0 a1 r4 (⟨r3.Hi, wu64 (↑((r3.Lo % Int.ofNat (2 ^ 64)).toNat ||| (wu64 (↑((a0.Hi.fdiv (2 ^ Min.min (wu64 (w64 (x2 - 64))).toNat 64) % Int.ofNat (2 ^ 64)).toNat &&& (1 % Int.ofNat (2 ^ 64)).toNat) : Int) % Int.ofNat (2 ^ 64)).toNat) : Int)⟩) (w64 (x2 - 1))))) = some y) : k_ref01_Divide_1010 a0 a1 x0 x1 x2 = some y :=
  pt_of zT [15, 10] (by kernel_rfl) h

theorem t_ref01_Divide_1010v1 (a0 : Gref01Wide) (a1 : Gref01Wide) (x0 : Gref01Wide) (x1 : Gref01Wide) (x2 : Int) {y : AV × Mem} (h : (
  chk ((0 : Int) ≤ 63) <|
  callD r_ref01_Twice (cw f_ref01_Twice [.agg (dGref01Wide.enc x1)] []) fun (r8 : Gref01Wide) =>
  callD r_ref01_Twice (cw f_ref01_Twice [.agg (dGref01Wide.enc x0)] []) fun (r9 : Gref01Wide) =>
  brn (x1.Hi.fdiv (2 ^ Min.min (Int.toNat 63) 64) == 1) (k_ref01_Divide_1015 a0 a1 x2 r9 (⟨r8.Hi, wu64 (↑((r8.Lo % Int.ofNat (2 ^ 64)).toNat ||| (wu64 (↑((a0.Lo.fdiv (2 ^ Min.min (wu64 (x2.tmod 64)).toNat 64) % Int.ofNat (2 ^ 64)).toNat &&& (1 % Int.ofNat (2 ^ 64)).toNat) : Int) % Int.ofNat (2 ^ 64)).toNat) : Int)⟩))
  (callD r_ref01_Order (cw f_ref01_Order [.agg (dGref01Wide.enc (⟨r8.Hi, wu64 (↑((r8.Lo % Int.ofNat (2 ^ 64)).toNat ||| (wu64 (↑((a0.Lo.fdiv (2 ^ Min.min (wu64 (x2.tmod 64)).toNat 64) % Int.ofNat (2 ^ 64)).toNat &&& (1 % Int.ofNat (2 ^ 64)).toNat) : Int) % Int.ofNat (2 ^ 64)).toNat) : Int)⟩)), .agg (dGref01Wide.enc a1)] []) fun (r10 : Int) =>
   brn (decide (0 ≤ r10)) (k_ref01_Divide_1015 a0 a1 x2 r9 (⟨r8.Hi, wu64 (↑((r8.Lo % Int.ofNat (2 ^ 64)).toNat ||| (wu64 (↑((a0.Lo.fdiv (2 ^ Min.min (wu64 (x2.tmod 64)).toNat 64) % Int.ofNat (2 ^ 64)).toNat &&& (1 % Int.ofNat (2 ^ 64)).toNat) : Int) % Int.ofNat (2 ^ 64)).toNat) : Int)⟩))
   (k_ref01_Divide_1 a0 a1 r9 (⟨r8.Hi, wu64 (↑((r8.Lo % Int.ofNat (2 ^ 64)).toNat ||| (wu64 (↑((a0.Lo.fdiv (2 ^ Min.min (wu64 (x2.tmod 64)).toNat 64) % Int.ofNat (2 ^ 64)).toNat &&& (1 % Int.ofNat (2 ^ 64)).toNat) : Int) % Int.ofNat (2 ^ 64)).toNat) : Int)⟩) (w64 (x2 - 1))))) = some y) : k_ref01_Divide_1010v1 a0 a1 x0 x1 x2 = some y :=
  pt_of zT [15, 10] (by kernel_rfl) h

theorem t_ref01_Divide_1015 (a0 : Gref01Wide) (a1 : Gref01Wide) (x2 : Int) (x5 : Gref01Wide) (x6 : Gref01Wide) {y : AV × Mem} (h : (
  callD r_ref01_Minus (cw f_ref01_Minus [.agg (dGref01Wide.enc x6), .agg (dGref01Wide.enc a1)] []) fun (r11 : Gref01Wide) =>
  k_ref01_Divide_1 a0 a1 (⟨x5.Hi, wu64 (↑((x5.Lo % Int.ofNat (2 ^ 64)).toNat ||| (1 % Int.ofNat (2 ^ 64)).toNat) : Int)⟩) r11 (w64 (x2 - 1))) = some y) : k_ref01_Divide_1015 a0 a1 x2 x5 x6 = some y :=
  pt_of zT [15, 10] (by kernel_rfl) h

theorem e_ref01_Divide (a0 : Gref01Wide) (a1 : Gref01Wide) {y : AV × Mem} (h : (
  brn (a0.Hi == 0) (brn (a1.Hi == 0) (chk ((a1.Lo : Int) ≠ 0) <|
    chk ((a1.Lo : Int) ≠ 0) <|
    some (.tup [.agg (dGref01Wide.enc (⟨0, wu64 (a0.Lo.tdiv a1.Lo)⟩)), .agg (dGref01Wide.enc (⟨0, a0.Lo.tmod a1.Lo⟩))], []))
   (k_ref01_Divide_1 a0 a1 (⟨0, 0⟩) (⟨0, 0⟩) 127))
  (k_ref01_Divide_1 a0 a1 (⟨0, 0⟩) (⟨0, 0⟩) 127)) = some y) : cw f_ref01_Divide [.agg (dGref01Wide.enc a0), .agg (dGref01Wide.enc a1)] [] = some y :=
  callw_tree R_ref01_Divide zT [15, 10] (by kernel_rfl) (by kernel_rfl) (by kernel_rfl) (by kernel_rfl) (by kernel_rfl) h

theorem e_slices_nextPowerOfTwo (a0 : Int) {y : AV × Mem} (h : (
  callD r_bits_Len (cw f_bits_Len [.v (.int .u64 (wu64 a0))] []) fun (r0 : Int) =>
  chk ((0 : Int) ≤ r0) <|
  some (.v (.int .u64 (wu64 (1 * 2 ^ Min.min r0.toNat 64))), [])) = some y) : cw f_slices_nextPowerOfTwo [I a0] [] = some y :=
  callw_tree R_slices_nextPowerOfTwo zT [] (by kernel_rfl) (by kernel_rfl) (by kernel_rfl) (by kernel_rfl) (by kernel_rfl) h

theorem e_slices_xorshift_Next (a0 : Int) {y : AV × Mem} (h : (
  chk ((0 : Int) ≤ 13) <|
  chk ((0 : Int) ≤ 7) <|
  chk ((0 : Int) ≤ 17) <|
  some (.v (.int .u64 (wu64 (↑((wu64 (↑((wu64 (↑((a0 % Int.ofNat (2 ^ 64)).toNat ^^^ (wu64 (a0 * 2 ^ Min.min (Int.toNat 13) 64) % Int.ofNat (2 ^ 64)).toNat) : Int) % Int.ofNat (2 ^ 64)).toNat ^^^ ((wu64 (↑((a0 % Int.ofNat (2 ^ 64)).toNat ^^^ (wu64 (a0 * 2 ^ Min.min (Int.toNat 13) 64) % Int.ofNat (2 ^ 64)).toNat) : Int)).fdiv (2 ^ Min.min (Int.toNat 7) 64) % Int.ofNat (2 ^ 64)).toNat) : Int) % Int.ofNat (2 ^ 64)).toNat ^^^ (wu64 (wu64 (↑((wu64 (↑((a0 % Int.ofNat (2 ^ 64)).toNat ^^^ (wu64 (a0 * 2 ^ Min.min (Int.toNat 13) 64) % Int.ofNat (2 ^ 64)).toNat) : Int) % Int.ofNat (2 ^ 64)).toNat ^^^ ((wu64 (↑((a0 % Int.ofNat (2 ^ 64)).toNat ^^^ (wu64 (a0 * 2 ^ Min.min (Int.toNat 13) 64) % Int.ofNat (2 ^ 64)).toNat) : Int)).fdiv (2 ^ Min.min (Int.toNat 7) 64) % Int.ofNat (2 ^ 64)).toNat) : Int) * 2 ^ Min.min (Int.toNat 17) 64) % Int.ofNat (2 ^ 64)).toNat) : Int))), [(1000, ⟨1, ty_slices_xorshift, [dI_u64.enc (wu64 (↑((wu64 (↑((wu64 (↑((a0 % Int.ofNat (2 ^ 64)).toNat ^^^ (wu64 (a0 * 2 ^ Min.min (Int.toNat 13) 64) % Int.ofNat (2 ^ 64)).toNat) : Int) % Int.ofNat (2 ^ 64)).toNat ^^^ ((wu64 (↑((a0 % Int.ofNat (2 ^ 64)).toNat ^^^ (wu64 (a0 * 2 ^ Min.min (Int.toNat 13) 64) % Int.ofNat (2 ^ 64)).toNat) : Int)).fdiv (2 ^ Min.min (Int.toNat 7) 64) % Int.ofNat (2 ^ 64)).toNat) : Int) % Int.ofNat (2 ^ 64)).toNat ^^^ (wu64 (wu64 (↑((wu64 (↑((a0 % Int.ofNat (2 ^ 64)).toNat ^^^ (wu64 (a0 * 2 ^ Min.min (Int.toNat 13) 64) % Int.ofNat (2 ^ 64)).toNat) : Int) % Int.ofNat (2 ^ 64)).toNat ^^^ ((wu64 (↑((a0 % Int.ofNat (2 ^ 64)).toNat ^^^ (wu64 (a0 * 2 ^ Min.min (Int.toNat 13) 64) % Int.ofNat (2 ^ 64)).toNat) : Int)).fdiv (2 ^ Min.min (Int.toNat 7) 64) % Int.ofNat (2 ^ 64)).toNat) : Int) * 2 ^ Min.min (Int.toNat 17) 64) % Int.ofNat (2 ^ 64)).toNat) : Int))], true⟩)])) = some y) : cw f_slices_xorshift_Next [.loc 1000 1 0 0] [(1000, ⟨1, ty_slices_xorshift, [dI_u64.enc a0], true⟩)] = some y :=
  callw_tree R_slices_xorshift_Next zT [] (by kernel_rfl) (by kernel_rfl) (by kernel_rfl) (by kernel_rfl) (by kernel_rfl) h

theorem e_cmp_isNaN_uint64 (a0 : Int) {y : AV × Mem} (h : (
  some (B (a0 != a0), [])) = some y) : cw f_cmp_isNaN_uint64 [.v (.int .u64 a0)] [] = some y :=
  callw_tree R_cmp_isNaN_uint64 zT [] (by kernel_rfl) (by kernel_rfl) (by kernel_rfl) (by kernel_rfl) (by kernel_rfl) h

theorem e_bits_Rem64 (a0 : Int) (a1 : Int) (a2 : Int) {y : AV × Mem} (h : (
  chk ((a2 : Int) ≠ 0) <|
  callD r_bits_Div64 (cw f_bits_Div64 [.v (.int .u64 (a0.tmod a2)), .v (.int .u64 a1), .v (.int .u64 a2)] []) fun (r0 : Int × Int) =>
  some (.v (.int .u64 r0.snd), [])) = some y) : cw f_bits_Rem64 [.v (.int .u64 a0), .v (.int .u64 a1), .v (.int .u64 a2)] [] = some y :=
  callw_tree R_bits_Rem64 zT [] (by kernel_rfl) (by kernel_rfl) (by kernel_rfl) (by kernel_rfl) (by kernel_rfl) h

theorem e_bits_Div64 (a1 : Int) (a2 : Int) {y : AV × Mem} (h : (
  brn (a2 == 0) (none)
  (brn (decide (a2 ≤ 0)) (none)
   (chk ((a2 : Int) ≠ 0) <|
    chk ((a2 : Int) ≠ 0) <|
    some (.tup [.v (.int .u64 (wu64 (a1.tdiv a2))), .v (.int .u64 (a1.tmod a2))], [])))) = some y) : cw f_bits_Div64 [.v (.int .u64 0), .v (.int .u64 a1), .v (.int .u64 a2)] [] = some y :=
  callw_tree R_bits_Div64 zT [] (by kernel_rfl) (by kernel_rfl) (by kernel_rfl) (by kernel_rfl) (by kernel_rfl) h

theorem e_ref01_Twice (a0 : Gref01Wide) {y : AV × Mem} (h : (
  chk ((0 : Int) ≤ 1) <|
  chk ((0 : Int) ≤ 63) <|
  chk ((0 : Int) ≤ 1) <|
  some (.agg (dGref01Wide.enc (⟨wu64 (↑((wu64 (a0.Hi * 2 ^ Min.min (Int.toNat 1) 64) % Int.ofNat (2 ^ 64)).toNat ||| (a0.Lo.fdiv (2 ^ Min.min (Int.toNat 63) 64) % Int.ofNat (2 ^ 64)).toNat) : Int), wu64 (a0.Lo * 2 ^ Min.min (Int.toNat 1) 64)⟩)), [])) = some y) : cw f_ref01_Twice [.agg (dGref01Wide.enc a0)] [] = some y :=
  callw_tree R_ref01_Twice zT [] (by kernel_rfl) (by kernel_rfl) (by kernel_rfl) (by kernel_rfl) (by kernel_rfl) h

end Go.Proofs.Ytohpjbokhcifbaa
