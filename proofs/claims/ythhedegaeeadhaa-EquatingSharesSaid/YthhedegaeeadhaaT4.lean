/- What the functions compute, between two cut points: printed by a program, checked by the kernel. -/
import Derived.Test.YthhedegaeeadhaaAnn
namespace Go.Proofs.Ythhedegaeeadhaa
open Go.Ab
set_option maxRecDepth 100000
set_option linter.unusedVariables false

theorem e_ratio_Compare (a0 : GRatio) (a1 : GRatio) {y : AV × Mem} (h : (
  callD r_ratio_Valid (cw f_ratio_Valid [.agg (dGRatio.enc a0)] []) fun (r0 : Bool) =>
  brn (!r0) (some (I 0, []))
  (callD r_ratio_Valid (cw f_ratio_Valid [.agg (dGRatio.enc a1)] []) fun (r1 : Bool) =>
   brn (!r1) (some (I 0, []))
   (callD r_ratio_signedProduct (cw f_ratio_signedProduct [I a0.Num, .v (.int .u64 (wu64 a1.Den))] []) fun (r2 : GratioSigned) =>
    callD r_ratio_signedProduct (cw f_ratio_signedProduct [I a1.Num, .v (.int .u64 (wu64 a0.Den))] []) fun (r3 : GratioSigned) =>
    brn r2.neg (brn r3.neg (callD r_ratio_wide_compare (cw f_ratio_wide_compare [.agg (dGratioWide.enc r3.abs), .agg (dGratioWide.enc r2.abs)] []) fun (r4 : Int) =>
      some (I r4, []))
     (brn r2.neg (some (I (-1), []))
      (brn r3.neg (some (I 1, []))
       (callD r_ratio_wide_compare (cw f_ratio_wide_compare [.agg (dGratioWide.enc r2.abs), .agg (dGratioWide.enc r3.abs)] []) fun (r5 : Int) =>
        some (I r5, [])))))
    (brn r2.neg (some (I (-1), []))
     (brn r3.neg (some (I 1, []))
      (callD r_ratio_wide_compare (cw f_ratio_wide_compare [.agg (dGratioWide.enc r2.abs), .agg (dGratioWide.enc r3.abs)] []) fun (r6 : Int) =>
       some (I r6, []))))))) = some y) : cw f_ratio_Compare [.agg (dGRatio.enc a0), .agg (dGRatio.enc a1)] [] = some y :=
  callw_tree R_ratio_Compare zT [] (by kernel_rfl) (by kernel_rfl) (by kernel_rfl) (by kernel_rfl) (by kernel_rfl) h

theorem e_conversion_steps_slope (a0 : GconversionSteps) (a1 : GPoint) (a2 : GPoint) {y : AV × Mem} (h : (
  callD r_conversion_steps_do (cw f_conversion_steps_do [.loc 1000 1 0 0, .fn f_ratio_Sub [], .agg (dGRatio.enc a2.Y), .agg (dGRatio.enc a1.Y)] [(1000, ⟨1, ty_conversion_steps, [dGconversionSteps.enc a0], true⟩)]) fun (r0 : GRatio × GconversionSteps) =>
  callD r_conversion_steps_do (cw f_conversion_steps_do [.loc 1000 1 0 0, .fn f_ratio_Sub [], .agg (dGRatio.enc a2.X), .agg (dGRatio.enc a1.X)] [(1000, ⟨1, ty_conversion_steps, [dGconversionSteps.enc r0.snd], true⟩)]) fun (r1 : GRatio × GconversionSteps) =>
  callD r_conversion_steps_do (cw f_conversion_steps_do [.loc 1000 1 0 0, .fn f_ratio_Div [], .agg (dGRatio.enc r0.fst), .agg (dGRatio.enc r1.fst)] [(1000, ⟨1, ty_conversion_steps, [dGconversionSteps.enc r1.snd], true⟩)]) fun (r2 : GRatio × GconversionSteps) =>
  some (.agg (dGRatio.enc r2.fst), [(1000, ⟨1, ty_conversion_steps, [dGconversionSteps.enc r2.snd], true⟩)])) = some y) : cw f_conversion_steps_slope [.loc 1000 1 0 0, .agg (dGPoint.enc a1), .agg (dGPoint.enc a2)] [(1000, ⟨1, ty_conversion_steps, [dGconversionSteps.enc a0], true⟩)] = some y :=
  callw_tree R_conversion_steps_slope zT [] (by kernel_rfl) (by kernel_rfl) (by kernel_rfl) (by kernel_rfl) (by kernel_rfl) h

theorem e_conversion_steps_do_Add (a0 : GconversionSteps) (a2 : GRatio) (a3 : GRatio) {y : AV × Mem} (h : (
  brn (a0.e != 0) (some (.agg (dGRatio.enc (⟨0, 0⟩)), [(1000, ⟨1, ty_conversion_steps, [dGconversionSteps.enc a0], true⟩)]))
  (callD r_ratio_Add (cw f_ratio_Add [.agg (dGRatio.enc a2), .agg (dGRatio.enc a3)] []) fun (r0 : GRatio × Int) =>
   some (.agg (dGRatio.enc r0.fst), [(1000, ⟨1, ty_conversion_steps, [dGconversionSteps.enc ⟨r0.snd⟩], true⟩)]))) = some y) : cw f_conversion_steps_do [.loc 1000 1 0 0, .fn f_ratio_Add [], .agg (dGRatio.enc a2), .agg (dGRatio.enc a3)] [(1000, ⟨1, ty_conversion_steps, [dGconversionSteps.enc a0], true⟩)] = some y :=
  callw_tree R_conversion_steps_do zT [] (by kernel_rfl) (by kernel_rfl) (by kernel_rfl) (by kernel_rfl) (by kernel_rfl) h

theorem e_conversion_steps_do_Sub (a0 : GconversionSteps) (a2 : GRatio) (a3 : GRatio) {y : AV × Mem} (h : (
  brn (a0.e != 0) (some (.agg (dGRatio.enc (⟨0, 0⟩)), [(1000, ⟨1, ty_conversion_steps, [dGconversionSteps.enc a0], true⟩)]))
  (callD r_ratio_Sub (cw f_ratio_Sub [.agg (dGRatio.enc a2), .agg (dGRatio.enc a3)] []) fun (r0 : GRatio × Int) =>
   some (.agg (dGRatio.enc r0.fst), [(1000, ⟨1, ty_conversion_steps, [dGconversionSteps.enc ⟨r0.snd⟩], true⟩)]))) = some y) : cw f_conversion_steps_do [.loc 1000 1 0 0, .fn f_ratio_Sub [], .agg (dGRatio.enc a2), .agg (dGRatio.enc a3)] [(1000, ⟨1, ty_conversion_steps, [dGconversionSteps.enc a0], true⟩)] = some y :=
  callw_tree R_conversion_steps_do zT [] (by kernel_rfl) (by kernel_rfl) (by kernel_rfl) (by kernel_rfl) (by kernel_rfl) h

theorem e_conversion_steps_do_Mul (a0 : GconversionSteps) (a2 : GRatio) (a3 : GRatio) {y : AV × Mem} (h : (
  brn (a0.e != 0) (some (.agg (dGRatio.enc (⟨0, 0⟩)), [(1000, ⟨1, ty_conversion_steps, [dGconversionSteps.enc a0], true⟩)]))
  (callD r_ratio_Mul (cw f_ratio_Mul [.agg (dGRatio.enc a2), .agg (dGRatio.enc a3)] []) fun (r0 : GRatio × Int) =>
   some (.agg (dGRatio.enc r0.fst), [(1000, ⟨1, ty_conversion_steps, [dGconversionSteps.enc ⟨r0.snd⟩], true⟩)]))) = some y) : cw f_conversion_steps_do [.loc 1000 1 0 0, .fn f_ratio_Mul [], .agg (dGRatio.enc a2), .agg (dGRatio.enc a3)] [(1000, ⟨1, ty_conversion_steps, [dGconversionSteps.enc a0], true⟩)] = some y :=
  callw_tree R_conversion_steps_do zT [] (by kernel_rfl) (by kernel_rfl) (by kernel_rfl) (by kernel_rfl) (by kernel_rfl) h

theorem e_conversion_steps_do_Div (a0 : GconversionSteps) (a2 : GRatio) (a3 : GRatio) {y : AV × Mem} (h : (
  brn (a0.e != 0) (some (.agg (dGRatio.enc (⟨0, 0⟩)), [(1000, ⟨1, ty_conversion_steps, [dGconversionSteps.enc a0], true⟩)]))
  (callD r_ratio_Div (cw f_ratio_Div [.agg (dGRatio.enc a2), .agg (dGRatio.enc a3)] []) fun (r0 : GRatio × Int) =>
   some (.agg (dGRatio.enc r0.fst), [(1000, ⟨1, ty_conversion_steps, [dGconversionSteps.enc ⟨r0.snd⟩], true⟩)]))) = some y) : cw f_conversion_steps_do [.loc 1000 1 0 0, .fn f_ratio_Div [], .agg (dGRatio.enc a2), .agg (dGRatio.enc a3)] [(1000, ⟨1, ty_conversion_steps, [dGconversionSteps.enc a0], true⟩)] = some y :=
  callw_tree R_conversion_steps_do zT [] (by kernel_rfl) (by kernel_rfl) (by kernel_rfl) (by kernel_rfl) (by kernel_rfl) h

theorem e_ratio_Mul (a0 : GRatio) (a1 : GRatio) {y : AV × Mem} (h : (
  callD r_ratio_Valid (cw f_ratio_Valid [.agg (dGRatio.enc a0)] []) fun (r0 : Bool) =>
  brn (!r0) (some (.tup [.agg (dGRatio.enc (⟨0, 0⟩)), I 1], []))
  (callD r_ratio_Valid (cw f_ratio_Valid [.agg (dGRatio.enc a1)] []) fun (r1 : Bool) =>
   brn (!r1) (some (.tup [.agg (dGRatio.enc (⟨0, 0⟩)), I 1], []))
   (callD r_ratio_magnitude (cw f_ratio_magnitude [I a0.Num] []) fun (r2 : Int) =>
    callD r_ratio_magnitude (cw f_ratio_magnitude [I a1.Num] []) fun (r3 : Int) =>
    callD r_ratio_gcd (cw f_ratio_gcd [.v (.int .u64 r2), .v (.int .u64 (wu64 a1.Den))] []) fun (r4 : Int) =>
    callD r_ratio_gcd (cw f_ratio_gcd [.v (.int .u64 r3), .v (.int .u64 (wu64 a0.Den))] []) fun (r5 : Int) =>
    chk ((r4 : Int) ≠ 0) <|
    chk ((r5 : Int) ≠ 0) <|
    callD r_ratio_product (cw f_ratio_product [.v (.int .u64 (wu64 (r2.tdiv r4))), .v (.int .u64 (wu64 (r3.tdiv r5)))] []) fun (r6 : GratioWide) =>
    chk ((r5 : Int) ≠ 0) <|
    chk ((r4 : Int) ≠ 0) <|
    callD r_ratio_product (cw f_ratio_product [.v (.int .u64 (wu64 ((wu64 a0.Den).tdiv r5))), .v (.int .u64 (wu64 ((wu64 a1.Den).tdiv r4)))] []) fun (r7 : GratioWide) =>
    callD r_ratio_fitted (cw f_ratio_fitted [B (!decide (a0.Num < 0) == decide (a1.Num < 0)), .agg (dGratioWide.enc r6), .agg (dGratioWide.enc r7)] []) fun (r8 : GRatio × Int) =>
    some (.tup [.agg (dGRatio.enc r8.fst), I r8.snd], [])))) = some y) : cw f_ratio_Mul [.agg (dGRatio.enc a0), .agg (dGRatio.enc a1)] [] = some y :=
  callw_tree R_ratio_Mul zT [] (by kernel_rfl) (by kernel_rfl) (by kernel_rfl) (by kernel_rfl) (by kernel_rfl) h

theorem e_ratio_Sub (a0 : GRatio) (a1 : GRatio) {y : AV × Mem} (h : (
  callD r_ratio_Valid (cw f_ratio_Valid [.agg (dGRatio.enc a0)] []) fun (r0 : Bool) =>
  brn (!r0) (some (.tup [.agg (dGRatio.enc (⟨0, 0⟩)), I 1], []))
  (callD r_ratio_Valid (cw f_ratio_Valid [.agg (dGRatio.enc a1)] []) fun (r1 : Bool) =>
   brn (!r1) (some (.tup [.agg (dGRatio.enc (⟨0, 0⟩)), I 1], []))
   (callD r_ratio_Add (cw f_ratio_Add [.agg (dGRatio.enc a0), .agg (dGRatio.enc (⟨w64 (0 - a1.Num), a1.Den⟩))] []) fun (r2 : GRatio × Int) =>
    some (.tup [.agg (dGRatio.enc r2.fst), I r2.snd], [])))) = some y) : cw f_ratio_Sub [.agg (dGRatio.enc a0), .agg (dGRatio.enc a1)] [] = some y :=
  callw_tree R_ratio_Sub zT [] (by kernel_rfl) (by kernel_rfl) (by kernel_rfl) (by kernel_rfl) (by kernel_rfl) h

theorem e_distribution_Count (a0 : GDistribution) {y : AV × Mem} (h : (
  callD r_distribution_Below (cw f_distribution_Below [.agg (dGDistribution.enc a0), I ((↑(List.map dI_i64.enc a0.Counts).length : Int))] []) fun (r0 : Int) =>
  some (I r0, [])) = some y) : cw f_distribution_Count [.agg (dGDistribution.enc a0)] [] = some y :=
  callw_tree R_distribution_Count zT [] (by kernel_rfl) (by kernel_rfl) (by kernel_rfl) (by kernel_rfl) (by kernel_rfl) h

theorem e_distribution_check (a0 : GDistribution) {y : AV × Mem} (h : (
  callD r_distribution_Valid (cw f_distribution_Valid [.agg (dGDistribution.enc a0)] []) fun (r0 : Bool) =>
  brn (!r0) (some (.tup [I 0, I 1], []))
  (callD r_distribution_Count (cw f_distribution_Count [.agg (dGDistribution.enc a0)] []) fun (r1 : Int) =>
   brn (r1 == 0) (some (.tup [I 0, I 10], []))
   (some (.tup [I r1, I 0], [])))) = some y) : cw f_distribution_check [.agg (dGDistribution.enc a0)] [] = some y :=
  callw_tree R_distribution_check zT [] (by kernel_rfl) (by kernel_rfl) (by kernel_rfl) (by kernel_rfl) (by kernel_rfl) h

noncomputable def k_distribution_sumOfScores_1 (a0 : GDistribution) (x0 : Int) (x1 : Int) : Option (AV × Mem) := pt R_distribution_sumOfScores 1 ⟨[(3, I x0), (7, .sl 1 (List.map dI_i64.enc a0.Counts)), (8, I ((↑(List.map dI_i64.enc a0.Counts).length : Int))), (9, I x1)], []⟩

theorem t_distribution_sumOfScores_1 (a0 : GDistribution) (x0 : Int) (x1 : Int) {y : AV × Mem} (h : (
  brn (decide (x1 < (↑(List.map dI_i64.enc a0.Counts).length : Int))) (chk ((0 : Int) ≤ x1) <|
   elemD dI_i64 (List.map dI_i64.enc a0.Counts) x1.toNat fun (c2 : Int) =>
   k_distribution_sumOfScores_1 a0 (w64 (x0 + w64 (x1 * c2))) (w64 (x1 + 1)))
  (some (I x0, []))) = some y) : k_distribution_sumOfScores_1 a0 x0 x1 = some y :=
  pt_of zT [] (by kernel_rfl) h

theorem e_distribution_sumOfScores (a0 : GDistribution) {y : AV × Mem} (h : (
  k_distribution_sumOfScores_1 a0 0 0) = some y) : cw f_distribution_sumOfScores [.agg (dGDistribution.enc a0)] [] = some y :=
  callw_tree R_distribution_sumOfScores zT [] (by kernel_rfl) (by kernel_rfl) (by kernel_rfl) (by kernel_rfl) (by kernel_rfl) h

theorem e_conversion_Line (a0 : GRatio) (a1 : GRatio) {y : AV × Mem} (h : (
  callD r_ratio_Valid (cw f_ratio_Valid [.agg (dGRatio.enc a0)] []) fun (r0 : Bool) =>
  brn (!r0) (some (.tup [.agg (dGCurve.enc ⟨[]⟩), I 1], []))
  (callD r_ratio_Valid (cw f_ratio_Valid [.agg (dGRatio.enc a1)] []) fun (r1 : Bool) =>
   brn (!r1) (some (.tup [.agg (dGCurve.enc ⟨[]⟩), I 1], []))
   (brn (decide (a0.Num ≤ 0)) (some (.tup [.agg (dGCurve.enc ⟨[]⟩), I 2], []))
    (callD r_ratio_Add (cw f_ratio_Add [.agg (dGRatio.enc a0), .agg (dGRatio.enc a1)] []) fun (r2 : GRatio × Int) =>
     brn (r2.snd != 0) (some (.tup [.agg (dGCurve.enc ⟨[]⟩), I r2.snd], []))
     (callD r_conversion_whole (cw f_conversion_whole [I 0] []) fun (r3 : GRatio) =>
      callD r_conversion_whole (cw f_conversion_whole [I 1] []) fun (r4 : GRatio) =>
      some (.tup [.agg (dGCurve.enc (⟨[⟨⟨r3.Num, r3.Den⟩, ⟨a1.Num, a1.Den⟩⟩, ⟨⟨r4.Num, r4.Den⟩, ⟨r2.fst.Num, r2.fst.Den⟩⟩]⟩)), I 0], [])))))) = some y) : cw f_conversion_Line [.agg (dGRatio.enc a0), .agg (dGRatio.enc a1)] [] = some y :=
  callw_tree R_conversion_Line zT [] (by kernel_rfl) (by kernel_rfl) (by kernel_rfl) (by kernel_rfl) (by kernel_rfl) h

theorem e_ref01_Plus (a0 : Gref01Wide) (a1 : Gref01Wide) {y : AV × Mem} (h : (
  brn (Int.ofNat ((a0.Lo.toNat + a1.Lo.toNat + Int.toNat 0) / 2 ^ 64) == 0) (some (.agg (dGref01Wide.enc (⟨Int.ofNat ((a0.Hi.toNat + a1.Hi.toNat + Int.toNat 0) % 2 ^ 64), Int.ofNat ((a0.Lo.toNat + a1.Lo.toNat + Int.toNat 0) % 2 ^ 64)⟩)), []))
  (brn (Int.ofNat ((a0.Lo.toNat + a1.Lo.toNat + Int.toNat 0) / 2 ^ 64) == 1) (some (.agg (dGref01Wide.enc (⟨Int.ofNat ((a0.Hi.toNat + a1.Hi.toNat + Int.toNat 1) % 2 ^ 64), Int.ofNat ((a0.Lo.toNat + a1.Lo.toNat + Int.toNat 0) % 2 ^ 64)⟩)), []))
   (none))) = some y) : cw f_ref01_Plus [.agg (dGref01Wide.enc a0), .agg (dGref01Wide.enc a1)] [] = some y :=
  callw_tree R_ref01_Plus zT [] (by kernel_rfl) (by kernel_rfl) (by kernel_rfl) (by kernel_rfl) (by kernel_rfl) h

theorem e_ref01_Order (a0 : Gref01Wide) (a1 : Gref01Wide) {y : AV × Mem} (h : (
  brn (decide (a0.Hi < a1.Hi)) (some (I (-1), []))
  (brn (a0.Hi == a1.Hi) (brn (decide (a0.Lo < a1.Lo)) (some (I (-1), []))
    (brn (a0.Hi == a1.Hi && (a0.Lo == a1.Lo && true)) (some (I 0, []))
     (some (I 1, []))))
   (brn (a0.Hi == a1.Hi && (a0.Lo == a1.Lo && true)) (some (I 0, []))
    (some (I 1, []))))) = some y) : cw f_ref01_Order [.agg (dGref01Wide.enc a0), .agg (dGref01Wide.enc a1)] [] = some y :=
  callw_tree R_ref01_Order zT [] (by kernel_rfl) (by kernel_rfl) (by kernel_rfl) (by kernel_rfl) (by kernel_rfl) h

theorem e_ref01_Minus (a0 : Gref01Wide) (a1 : Gref01Wide) {y : AV × Mem} (h : (
  brn (Int.ofNat (if a0.Lo.toNat < a1.Lo.toNat + Int.toNat 0 then 1 else 0) == 0) (some (.agg (dGref01Wide.enc (⟨Int.ofNat ((a0.Hi.toNat + 2 ^ 64 - a1.Hi.toNat - Int.toNat 0) % 2 ^ 64), Int.ofNat ((a0.Lo.toNat + 2 ^ 64 - a1.Lo.toNat - Int.toNat 0) % 2 ^ 64)⟩)), []))
  (brn (Int.ofNat (if a0.Lo.toNat < a1.Lo.toNat + Int.toNat 0 then 1 else 0) == 1) (some (.agg (dGref01Wide.enc (⟨Int.ofNat ((a0.Hi.toNat + 2 ^ 64 - a1.Hi.toNat - Int.toNat 1) % 2 ^ 64), Int.ofNat ((a0.Lo.toNat + 2 ^ 64 - a1.Lo.toNat - Int.toNat 0) % 2 ^ 64)⟩)), []))
   (none))) = some y) : cw f_ref01_Minus [.agg (dGref01Wide.enc a0), .agg (dGref01Wide.enc a1)] [] = some y :=
  callw_tree R_ref01_Minus zT [] (by kernel_rfl) (by kernel_rfl) (by kernel_rfl) (by kernel_rfl) (by kernel_rfl) h

theorem e_bits_Mul64 (a0 : Int) (a1 : Int) {y : AV × Mem} (h : (
  chk ((0 : Int) ≤ 32) <|
  chk ((0 : Int) ≤ 32) <|
  chk ((0 : Int) ≤ 32) <|
  chk ((0 : Int) ≤ 32) <|
  chk ((0 : Int) ≤ 32) <|
  some (.tup [.v (.int .u64 (wu64 (wu64 (wu64 (a0.fdiv (2 ^ Min.min (Int.toNat 32) 64) * a1.fdiv (2 ^ Min.min (Int.toNat 32) 64)) + (wu64 (wu64 (a0.fdiv (2 ^ Min.min (Int.toNat 32) 64) * wu64 (↑((a1 % Int.ofNat (2 ^ 64)).toNat &&& (4294967295 % Int.ofNat (2 ^ 64)).toNat) : Int)) + (wu64 (wu64 (↑((a0 % Int.ofNat (2 ^ 64)).toNat &&& (4294967295 % Int.ofNat (2 ^ 64)).toNat) : Int) * wu64 (↑((a1 % Int.ofNat (2 ^ 64)).toNat &&& (4294967295 % Int.ofNat (2 ^ 64)).toNat) : Int))).fdiv (2 ^ Min.min (Int.toNat 32) 64))).fdiv (2 ^ Min.min (Int.toNat 32) 64)) + (wu64 (wu64 (↑((wu64 (wu64 (a0.fdiv (2 ^ Min.min (Int.toNat 32) 64) * wu64 (↑((a1 % Int.ofNat (2 ^ 64)).toNat &&& (4294967295 % Int.ofNat (2 ^ 64)).toNat) : Int)) + (wu64 (wu64 (↑((a0 % Int.ofNat (2 ^ 64)).toNat &&& (4294967295 % Int.ofNat (2 ^ 64)).toNat) : Int) * wu64 (↑((a1 % Int.ofNat (2 ^ 64)).toNat &&& (4294967295 % Int.ofNat (2 ^ 64)).toNat) : Int))).fdiv (2 ^ Min.min (Int.toNat 32) 64)) % Int.ofNat (2 ^ 64)).toNat &&& (4294967295 % Int.ofNat (2 ^ 64)).toNat) : Int) + wu64 (wu64 (↑((a0 % Int.ofNat (2 ^ 64)).toNat &&& (4294967295 % Int.ofNat (2 ^ 64)).toNat) : Int) * a1.fdiv (2 ^ Min.min (Int.toNat 32) 64)))).fdiv (2 ^ Min.min (Int.toNat 32) 64)))), .v (.int .u64 (wu64 (a0 * a1)))], [])) = some y) : cw f_bits_Mul64 [.v (.int .u64 a0), .v (.int .u64 a1)] [] = some y :=
  callw_tree R_bits_Mul64 zT [] (by kernel_rfl) (by kernel_rfl) (by kernel_rfl) (by kernel_rfl) (by kernel_rfl) h

theorem e_conversion_whole (a0 : Int) {y : AV × Mem} (h : (
  some (.agg (dGRatio.enc (⟨a0, 1⟩)), [])) = some y) : cw f_conversion_whole [I a0] [] = some y :=
  callw_tree R_conversion_whole zT [] (by kernel_rfl) (by kernel_rfl) (by kernel_rfl) (by kernel_rfl) (by kernel_rfl) h

theorem e_ratio_Round (a0 : GRatio) {y : AV × Mem} (h : (
  callD r_ratio_rounded (cw f_ratio_rounded [.agg (dGRatio.enc a0), .fn f_ratio_toRound []] []) fun (r0 : Int) =>
  some (I r0, [])) = some y) : cw f_ratio_Round [.agg (dGRatio.enc a0)] [] = some y :=
  callw_tree R_ratio_Round zT [] (by kernel_rfl) (by kernel_rfl) (by kernel_rfl) (by kernel_rfl) (by kernel_rfl) h

noncomputable def k_conversion_bends_1 (a0 : List GPoint) (x3 : List (List AV)) (x4 : GconversionSteps) (x5 : GRatio) (x6 : Int) : Option (AV × Mem) := pt R_conversion_bends 1 ⟨[(0, .sl 4 (List.map dGPoint.enc a0)), (4, .row 4 4 0 (List.length x3)), (5, .loc 5 1 0 0), (6, .loc 6 2 0 0), (7, I x6)], [(4, ⟨4, ty_api_Point, x3, false⟩), (5, ⟨1, ty_conversion_steps, [dGconversionSteps.enc x4], true⟩), (6, ⟨2, ty_api_Ratio, [dGRatio.enc x5], true⟩)]⟩

theorem t_conversion_bends_1 (a0 : List GPoint) (x3 : List (List AV)) (x4 : GconversionSteps) (x5 : GRatio) (x6 : Int) {y : AV × Mem} (h : (
  brn (decide (w64 (x6 + 1) < (↑(List.map dGPoint.enc a0).length : Int))) (chk ((0 : Int) ≤ x6) <|
   elemD dGPoint (List.map dGPoint.enc a0) x6.toNat fun (c7 : GPoint) =>
   chk ((0 : Int) ≤ (w64 (x6 + 1))) <|
   elemD dGPoint (List.map dGPoint.enc a0) ((w64 (x6 + 1)).toNat) fun (c8 : GPoint) =>
   callD r_conversion_steps_slope (cw f_conversion_steps_slope [.loc 1000 1 0 0, .agg (dGPoint.enc c7), .agg (dGPoint.enc c8)] [(1000, ⟨1, ty_conversion_steps, [dGconversionSteps.enc x4], true⟩)]) fun (r9 : GRatio × GconversionSteps) =>
   brn (!(r9.fst.Num == x5.Num && (r9.fst.Den == x5.Den && true))) (chk ((0 : Int) ≤ x6) <|
    elemD dGPoint (List.map dGPoint.enc a0) x6.toNat fun (c10 : GPoint) =>
    chk (x3.length = x3.length) <|
    chk ((x3.length + 1) * (32 + 1) ≤ 1099511627776) <|
    chk ((x3 ++ [[AV.v (Go.Value.int IntKind.i64 c10.X.Num), AV.v (Go.Value.int IntKind.i64 c10.X.Den), AV.v (Go.Value.int IntKind.i64 c10.Y.Num), AV.v (Go.Value.int IntKind.i64 c10.Y.Den)]]).length = (x3 ++ [[AV.v (Go.Value.int IntKind.i64 c10.X.Num), AV.v (Go.Value.int IntKind.i64 c10.X.Den), AV.v (Go.Value.int IntKind.i64 c10.Y.Num), AV.v (Go.Value.int IntKind.i64 c10.Y.Den)]]).length) <|
    k_conversion_bends_1 a0 (x3 ++ ([dGPoint.enc c10])) r9.snd r9.fst (w64 (x6 + 1)))
   (k_conversion_bends_1 a0 x3 r9.snd r9.fst (w64 (x6 + 1))))
  (brn (x4.e != 0) (some (.tup [.sl 4 (List.map dGPoint.enc []), I x4.e], []))
   (chk (0 + x3.length ≤ x3.length) <|
    some (.tup [.sl 4 (List.take x3.length x3), I 0], [])))) = some y) : k_conversion_bends_1 a0 x3 x4 x5 x6 = some y :=
  pt_of zT [] (by kernel_rfl) h

theorem e_conversion_bends (a0 : List GPoint) {y : AV × Mem} (h : (
  chk ((0 : Int) ≤ 0) <|
  elemD dGPoint (List.map dGPoint.enc a0) (Int.toNat 0) fun (c0 : GPoint) =>
  chk ((0 : Int) ≤ 1) <|
  elemD dGPoint (List.map dGPoint.enc a0) (Int.toNat 1) fun (c1 : GPoint) =>
  callD r_conversion_steps_slope (cw f_conversion_steps_slope [.loc 1000 1 0 0, .agg (dGPoint.enc c0), .agg (dGPoint.enc c1)] [(1000, ⟨1, ty_conversion_steps, [dGconversionSteps.enc ⟨0⟩], true⟩)]) fun (r2 : GRatio × GconversionSteps) =>
  k_conversion_bends_1 a0 [] r2.snd r2.fst 1) = some y) : cw f_conversion_bends [.sl 4 (List.map dGPoint.enc a0)] [] = some y :=
  callw_tree R_conversion_bends zT [] (by kernel_rfl) (by kernel_rfl) (by kernel_rfl) (by kernel_rfl) (by kernel_rfl) h

theorem e_conversion_pointAt (a0 : List GPoint) (a1 : GRatio) {y : AV × Mem} (h : (
  callD r_conversion_eval (cw f_conversion_eval [.sl 4 (List.map dGPoint.enc a0), .agg (dGRatio.enc a1)] []) fun (r0 : GRatio × Int) =>
  brn (r0.snd != 0) (some (.tup [.agg (dGPoint.enc (⟨⟨0, 0⟩, ⟨0, 0⟩⟩)), I r0.snd], []))
  (some (.tup [.agg (dGPoint.enc (⟨⟨a1.Num, a1.Den⟩, ⟨r0.fst.Num, r0.fst.Den⟩⟩)), I 0], []))) = some y) : cw f_conversion_pointAt [.sl 4 (List.map dGPoint.enc a0), .agg (dGRatio.enc a1)] [] = some y :=
  callw_tree R_conversion_pointAt zT [] (by kernel_rfl) (by kernel_rfl) (by kernel_rfl) (by kernel_rfl) (by kernel_rfl) h

theorem e_ratio_reduced (a0 : GratioSigned) (a1 : Int) {y : AV × Mem} (h : (
  callD r_ratio_wide_mod (cw f_ratio_wide_mod [.agg (dGratioWide.enc a0.abs), .v (.int .u64 a1)] []) fun (r0 : Int) =>
  callD r_ratio_gcd (cw f_ratio_gcd [.v (.int .u64 r0), .v (.int .u64 a1)] []) fun (r1 : Int) =>
  callD r_ratio_wide_over (cw f_ratio_wide_over [.agg (dGratioWide.enc a0.abs), .v (.int .u64 r1)] []) fun (r2 : GratioWide) =>
  chk ((r1 : Int) ≠ 0) <|
  callD r_ratio_fitted (cw f_ratio_fitted [B a0.neg, .agg (dGratioWide.enc r2), .agg (dGratioWide.enc (⟨0, wu64 (a1.tdiv r1)⟩))] []) fun (r3 : GRatio × Int) =>
  some (.tup [.agg (dGRatio.enc r3.fst), I r3.snd], [])) = some y) : cw f_ratio_reduced [.agg (dGratioSigned.enc a0), .v (.int .u64 a1)] [] = some y :=
  callw_tree R_ratio_reduced zT [] (by kernel_rfl) (by kernel_rfl) (by kernel_rfl) (by kernel_rfl) (by kernel_rfl) h

theorem e_ratio_signedProduct (a0 : Int) (a1 : Int) {y : AV × Mem} (h : (
  callD r_ratio_magnitude (cw f_ratio_magnitude [I a0] []) fun (r0 : Int) =>
  callD r_ratio_product (cw f_ratio_product [.v (.int .u64 r0), .v (.int .u64 a1)] []) fun (r1 : GratioWide) =>
  some (.agg (dGratioSigned.enc (⟨decide (a0 < 0), ⟨r1.hi, r1.lo⟩⟩)), [])) = some y) : cw f_ratio_signedProduct [I a0, .v (.int .u64 a1)] [] = some y :=
  callw_tree R_ratio_signedProduct zT [] (by kernel_rfl) (by kernel_rfl) (by kernel_rfl) (by kernel_rfl) (by kernel_rfl) h

theorem e_ratio_signed_plus (a0 : GratioSigned) (a1 : GratioSigned) {y : AV × Mem} (h : (
  brn (a0.neg == a1.neg) (callD r_ratio_wide_plus (cw f_ratio_wide_plus [.agg (dGratioWide.enc a0.abs), .agg (dGratioWide.enc a1.abs)] []) fun (r0 : GratioWide) =>
   some (.agg (dGratioSigned.enc (⟨a0.neg, ⟨r0.hi, r0.lo⟩⟩)), []))
  (callD r_ratio_wide_compare (cw f_ratio_wide_compare [.agg (dGratioWide.enc a0.abs), .agg (dGratioWide.enc a1.abs)] []) fun (r1 : Int) =>
   brn (decide (0 ≤ r1)) (callD r_ratio_wide_minus (cw f_ratio_wide_minus [.agg (dGratioWide.enc a0.abs), .agg (dGratioWide.enc a1.abs)] []) fun (r2 : GratioWide) =>
    some (.agg (dGratioSigned.enc (⟨a0.neg, ⟨r2.hi, r2.lo⟩⟩)), []))
   (callD r_ratio_wide_minus (cw f_ratio_wide_minus [.agg (dGratioWide.enc a1.abs), .agg (dGratioWide.enc a0.abs)] []) fun (r3 : GratioWide) =>
    some (.agg (dGratioSigned.enc (⟨a1.neg, ⟨r3.hi, r3.lo⟩⟩)), [])))) = some y) : cw f_ratio_signed_plus [.agg (dGratioSigned.enc a0), .agg (dGratioSigned.enc a1)] [] = some y :=
  callw_tree R_ratio_signed_plus zT [] (by kernel_rfl) (by kernel_rfl) (by kernel_rfl) (by kernel_rfl) (by kernel_rfl) h

theorem e_ratio_wide_mod (a0 : GratioWide) (a1 : Int) {y : AV × Mem} (h : (
  callD r_bits_Rem64 (cw f_bits_Rem64 [.v (.int .u64 a0.hi), .v (.int .u64 a0.lo), .v (.int .u64 a1)] []) fun (r0 : Int) =>
  some (.v (.int .u64 r0), [])) = some y) : cw f_ratio_wide_mod [.agg (dGratioWide.enc a0), .v (.int .u64 a1)] [] = some y :=
  callw_tree R_ratio_wide_mod zT [] (by kernel_rfl) (by kernel_rfl) (by kernel_rfl) (by kernel_rfl) (by kernel_rfl) h

theorem e_ratio_fitted (a0 : Bool) (a1 : GratioWide) (a2 : GratioWide) {y : AV × Mem} (h : (
  brn (a1.hi != 0) (some (.tup [.agg (dGRatio.enc (⟨0, 0⟩)), I 6], []))
  (brn (a2.hi != 0) (some (.tup [.agg (dGRatio.enc (⟨0, 0⟩)), I 6], []))
   (brn (decide (1152921504606846976 < a1.lo)) (some (.tup [.agg (dGRatio.enc (⟨0, 0⟩)), I 6], []))
    (brn (decide (1152921504606846976 < a2.lo)) (some (.tup [.agg (dGRatio.enc (⟨0, 0⟩)), I 6], []))
     (brn a0 (some (.tup [.agg (dGRatio.enc (⟨w64 (0 - w64 a1.lo), w64 a2.lo⟩)), I 0], []))
      (some (.tup [.agg (dGRatio.enc (⟨w64 a1.lo, w64 a2.lo⟩)), I 0], []))))))) = some y) : cw f_ratio_fitted [B a0, .agg (dGratioWide.enc a1), .agg (dGratioWide.enc a2)] [] = some y :=
  callw_tree R_ratio_fitted zT [] (by kernel_rfl) (by kernel_rfl) (by kernel_rfl) (by kernel_rfl) (by kernel_rfl) h

theorem e_ratio_wide_over (a0 : GratioWide) (a1 : Int) {y : AV × Mem} (h : (
  chk ((a1 : Int) ≠ 0) <|
  chk ((a1 : Int) ≠ 0) <|
  callD r_bits_Div64 (cw f_bits_Div64 [.v (.int .u64 (a0.hi.tmod a1)), .v (.int .u64 a0.lo), .v (.int .u64 a1)] []) fun (r0 : Int × Int) =>
  some (.agg (dGratioWide.enc (⟨wu64 (a0.hi.tdiv a1), r0.fst⟩)), [])) = some y) : cw f_ratio_wide_over [.agg (dGratioWide.enc a0), .v (.int .u64 a1)] [] = some y :=
  callw_tree R_ratio_wide_over zT [] (by kernel_rfl) (by kernel_rfl) (by kernel_rfl) (by kernel_rfl) (by kernel_rfl) h

theorem e_ratio_product (a0 : Int) (a1 : Int) {y : AV × Mem} (h : (
  callD r_bits_Mul64 (cw f_bits_Mul64 [.v (.int .u64 a0), .v (.int .u64 a1)] []) fun (r0 : Int × Int) =>
  some (.agg (dGratioWide.enc (⟨r0.fst, r0.snd⟩)), [])) = some y) : cw f_ratio_product [.v (.int .u64 a0), .v (.int .u64 a1)] [] = some y :=
  callw_tree R_ratio_product zT [] (by kernel_rfl) (by kernel_rfl) (by kernel_rfl) (by kernel_rfl) (by kernel_rfl) h

theorem e_ref01_Twice (a0 : Gref01Wide) {y : AV × Mem} (h : (
  chk ((0 : Int) ≤ 1) <|
  chk ((0 : Int) ≤ 63) <|
  chk ((0 : Int) ≤ 1) <|
  some (.agg (dGref01Wide.enc (⟨wu64 (↑((wu64 (a0.Hi * 2 ^ Min.min (Int.toNat 1) 64) % Int.ofNat (2 ^ 64)).toNat ||| (a0.Lo.fdiv (2 ^ Min.min (Int.toNat 63) 64) % Int.ofNat (2 ^ 64)).toNat) : Int), wu64 (a0.Lo * 2 ^ Min.min (Int.toNat 1) 64)⟩)), [])) = some y) : cw f_ref01_Twice [.agg (dGref01Wide.enc a0)] [] = some y :=
  callw_tree R_ref01_Twice zT [] (by kernel_rfl) (by kernel_rfl) (by kernel_rfl) (by kernel_rfl) (by kernel_rfl) h

theorem e_ratio_Less (a0 : GRatio) (a1 : GRatio) {y : AV × Mem} (h : (
  callD r_ratio_Compare (cw f_ratio_Compare [.agg (dGRatio.enc a0), .agg (dGRatio.enc a1)] []) fun (r0 : Int) =>
  some (B (r0 == -1), [])) = some y) : cw f_ratio_Less [.agg (dGRatio.enc a0), .agg (dGRatio.enc a1)] [] = some y :=
  callw_tree R_ratio_Less zT [] (by kernel_rfl) (by kernel_rfl) (by kernel_rfl) (by kernel_rfl) (by kernel_rfl) h

theorem e_ratio_wide_compare (a0 : GratioWide) (a1 : GratioWide) {y : AV × Mem} (h : (
  callD r_cmp_Compare_uint64 (cw f_cmp_Compare_uint64 [.v (.int .u64 a0.hi), .v (.int .u64 a1.hi)] []) fun (r0 : Int) =>
  brn (r0 != 0) (some (I r0, []))
  (callD r_cmp_Compare_uint64 (cw f_cmp_Compare_uint64 [.v (.int .u64 a0.lo), .v (.int .u64 a1.lo)] []) fun (r1 : Int) =>
   some (I r1, []))) = some y) : cw f_ratio_wide_compare [.agg (dGratioWide.enc a0), .agg (dGratioWide.enc a1)] [] = some y :=
  callw_tree R_ratio_wide_compare zT [] (by kernel_rfl) (by kernel_rfl) (by kernel_rfl) (by kernel_rfl) (by kernel_rfl) h

noncomputable def k_distribution_Below_1 (a0 : GDistribution) (a1 : Int) (x1 : Int) (x2 : Int) : Option (AV × Mem) := pt R_distribution_Below 1 ⟨[(1, I a1), (2, .loc 2 1 0 0), (5, I x1), (6, I x2)], [(2, ⟨1, ty_api_Distribution, [dGDistribution.enc a0], true⟩)]⟩

theorem t_distribution_Below_1 (a0 : GDistribution) (a1 : Int) (x1 : Int) (x2 : Int) {y : AV × Mem} (h : (
  brn (decide (x2 < (↑(List.map dI_i64.enc a0.Counts).length : Int))) (brn (decide (x2 < a1)) (chk ((0 : Int) ≤ x2) <|
    elemD dI_i64 (List.map dI_i64.enc a0.Counts) x2.toNat fun (c3 : Int) =>
    k_distribution_Below_1 a0 a1 (w64 (x1 + c3)) (w64 (x2 + 1)))
   (some (I x1, [])))
  (some (I x1, []))) = some y) : k_distribution_Below_1 a0 a1 x1 x2 = some y :=
  pt_of zT [] (by kernel_rfl) h

theorem e_distribution_Below (a0 : GDistribution) (a1 : Int) {y : AV × Mem} (h : (
  callD r_distribution_Valid (cw f_distribution_Valid [.agg (dGDistribution.enc a0)] []) fun (r0 : Bool) =>
  brn (!r0) (some (I 0, []))
  (k_distribution_Below_1 a0 a1 0 0)) = some y) : cw f_distribution_Below [.agg (dGDistribution.enc a0), I a1] [] = some y :=
  callw_tree R_distribution_Below zT [] (by kernel_rfl) (by kernel_rfl) (by kernel_rfl) (by kernel_rfl) (by kernel_rfl) h

theorem e_ratio_rounded_toRound (a0 : GRatio) {y : AV × Mem} (h : (
  callD r_ratio_Valid (cw f_ratio_Valid [.agg (dGRatio.enc a0)] []) fun (r0 : Bool) =>
  brn (!r0) (some (I 0, []))
  (chk ((a0.Den : Int) ≠ 0) <|
   chk ((a0.Den : Int) ≠ 0) <|
   brn (decide (a0.Num.tmod a0.Den < 0)) (callD r_ratio_toRound (cw f_ratio_toRound [I (w64 (w64 (a0.Num.tdiv a0.Den) - 1)), I (w64 (a0.Num.tmod a0.Den + a0.Den)), I a0.Den] []) fun (r1 : Int) =>
    some (I r1, []))
   (callD r_ratio_toRound (cw f_ratio_toRound [I (w64 (a0.Num.tdiv a0.Den)), I (a0.Num.tmod a0.Den), I a0.Den] []) fun (r2 : Int) =>
    some (I r2, [])))) = some y) : cw f_ratio_rounded [.agg (dGRatio.enc a0), .fn f_ratio_toRound []] [] = some y :=
  callw_tree R_ratio_rounded zT [] (by kernel_rfl) (by kernel_rfl) (by kernel_rfl) (by kernel_rfl) (by kernel_rfl) h

theorem e_ratio_toRound (a0 : Int) (a1 : Int) (a2 : Int) {y : AV × Mem} (h : (
  brn (decide (w64 (a2 - a1) ≤ a1)) (some (I (w64 (a0 + 1)), []))
  (some (I a0, []))) = some y) : cw f_ratio_toRound [I a0, I a1, I a2] [] = some y :=
  callw_tree R_ratio_toRound zT [] (by kernel_rfl) (by kernel_rfl) (by kernel_rfl) (by kernel_rfl) (by kernel_rfl) h

theorem e_ratio_wide_plus (a0 : GratioWide) (a1 : GratioWide) {y : AV × Mem} (h : (
  brn (Int.ofNat ((a0.lo.toNat + a1.lo.toNat + Int.toNat 0) / 2 ^ 64) == 0) (some (.agg (dGratioWide.enc (⟨Int.ofNat ((a0.hi.toNat + a1.hi.toNat + Int.toNat 0) % 2 ^ 64), Int.ofNat ((a0.lo.toNat + a1.lo.toNat + Int.toNat 0) % 2 ^ 64)⟩)), []))
  (brn (Int.ofNat ((a0.lo.toNat + a1.lo.toNat + Int.toNat 0) / 2 ^ 64) == 1) (some (.agg (dGratioWide.enc (⟨Int.ofNat ((a0.hi.toNat + a1.hi.toNat + Int.toNat 1) % 2 ^ 64), Int.ofNat ((a0.lo.toNat + a1.lo.toNat + Int.toNat 0) % 2 ^ 64)⟩)), []))
   (none))) = some y) : cw f_ratio_wide_plus [.agg (dGratioWide.enc a0), .agg (dGratioWide.enc a1)] [] = some y :=
  callw_tree R_ratio_wide_plus zT [] (by kernel_rfl) (by kernel_rfl) (by kernel_rfl) (by kernel_rfl) (by kernel_rfl) h

theorem e_ratio_wide_minus (a0 : GratioWide) (a1 : GratioWide) {y : AV × Mem} (h : (
  brn (Int.ofNat (if a0.lo.toNat < a1.lo.toNat + Int.toNat 0 then 1 else 0) == 0) (some (.agg (dGratioWide.enc (⟨Int.ofNat ((a0.hi.toNat + 2 ^ 64 - a1.hi.toNat - Int.toNat 0) % 2 ^ 64), Int.ofNat ((a0.lo.toNat + 2 ^ 64 - a1.lo.toNat - Int.toNat 0) % 2 ^ 64)⟩)), []))
  (brn (Int.ofNat (if a0.lo.toNat < a1.lo.toNat + Int.toNat 0 then 1 else 0) == 1) (some (.agg (dGratioWide.enc (⟨Int.ofNat ((a0.hi.toNat + 2 ^ 64 - a1.hi.toNat - Int.toNat 1) % 2 ^ 64), Int.ofNat ((a0.lo.toNat + 2 ^ 64 - a1.lo.toNat - Int.toNat 0) % 2 ^ 64)⟩)), []))
   (none))) = some y) : cw f_ratio_wide_minus [.agg (dGratioWide.enc a0), .agg (dGratioWide.enc a1)] [] = some y :=
  callw_tree R_ratio_wide_minus zT [] (by kernel_rfl) (by kernel_rfl) (by kernel_rfl) (by kernel_rfl) (by kernel_rfl) h

theorem e_bits_Rem64 (a0 : Int) (a1 : Int) (a2 : Int) {y : AV × Mem} (h : (
  chk ((a2 : Int) ≠ 0) <|
  callD r_bits_Div64 (cw f_bits_Div64 [.v (.int .u64 (a0.tmod a2)), .v (.int .u64 a1), .v (.int .u64 a2)] []) fun (r0 : Int × Int) =>
  some (.v (.int .u64 r0.snd), [])) = some y) : cw f_bits_Rem64 [.v (.int .u64 a0), .v (.int .u64 a1), .v (.int .u64 a2)] [] = some y :=
  callw_tree R_bits_Rem64 zT [] (by kernel_rfl) (by kernel_rfl) (by kernel_rfl) (by kernel_rfl) (by kernel_rfl) h

theorem e_bits_Div64 (a1 : Int) (a2 : Int) {y : AV × Mem} (h : (
  brn (a2 == 0) (none)
  (brn (decide (a2 ≤ 0)) (none)
   (chk ((a2 : Int) ≠ 0) <|
    chk ((a2 : Int) ≠ 0) <|
    some (.tup [.v (.int .u64 (wu64 (a1.tdiv a2))), .v (.int .u64 (a1.tmod a2))], [])))) = some y) : cw f_bits_Div64 [.v (.int .u64 0), .v (.int .u64 a1), .v (.int .u64 a2)] [] = some y :=
  callw_tree R_bits_Div64 zT [] (by kernel_rfl) (by kernel_rfl) (by kernel_rfl) (by kernel_rfl) (by kernel_rfl) h

theorem e_cmp_Compare_uint64 (a0 : Int) (a1 : Int) {y : AV × Mem} (h : (
  callD r_cmp_isNaN_uint64 (cw f_cmp_isNaN_uint64 [.v (.int .u64 a0)] []) fun (r0 : Bool) =>
  callD r_cmp_isNaN_uint64 (cw f_cmp_isNaN_uint64 [.v (.int .u64 a1)] []) fun (r1 : Bool) =>
  brn r0 (brn r1 (some (I 0, []))
   (some (I (-1), [])))
  (brn r1 (some (I 1, []))
   (brn (decide (a0 < a1)) (some (I (-1), []))
    (brn (decide (a1 < a0)) (some (I 1, []))
     (some (I 0, [])))))) = some y) : cw f_cmp_Compare_uint64 [.v (.int .u64 a0), .v (.int .u64 a1)] [] = some y :=
  callw_tree R_cmp_Compare_uint64 zT [] (by kernel_rfl) (by kernel_rfl) (by kernel_rfl) (by kernel_rfl) (by kernel_rfl) h

theorem e_cmp_isNaN_uint64 (a0 : Int) {y : AV × Mem} (h : (
  some (B (a0 != a0), [])) = some y) : cw f_cmp_isNaN_uint64 [.v (.int .u64 a0)] [] = some y :=
  callw_tree R_cmp_isNaN_uint64 zT [] (by kernel_rfl) (by kernel_rfl) (by kernel_rfl) (by kernel_rfl) (by kernel_rfl) h

end Go.Proofs.Ythhedegaeeadhaa
