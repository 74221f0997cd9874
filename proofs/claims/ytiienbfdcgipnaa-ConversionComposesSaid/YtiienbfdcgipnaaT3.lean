/- What the functions compute, between two cut points: printed by a program, checked by the kernel. -/
import Derived.Test.YtiienbfdcgipnaaAnn
namespace Go.Proofs.Ytiienbfdcgipnaa
open Go.Ab
set_option maxRecDepth 100000
set_option linter.unusedVariables false

theorem e_conversion_steps_slope (a0 : GconversionSteps) (a1 : GPoint) (a2 : GPoint) {y : AV × Mem} (h : (
  callD r_conversion_steps_do (cw f_conversion_steps_do [.loc 1000 1 0 0, .fn f_ratio_Sub [], .agg (dGRatio.enc a2.Y), .agg (dGRatio.enc a1.Y)] [(1000, ⟨1, ty_conversion_steps, [dGconversionSteps.enc a0], true⟩)]) fun (r0 : GRatio × GconversionSteps) =>
  callD r_conversion_steps_do (cw f_conversion_steps_do [.loc 1000 1 0 0, .fn f_ratio_Sub [], .agg (dGRatio.enc a2.X), .agg (dGRatio.enc a1.X)] [(1000, ⟨1, ty_conversion_steps, [dGconversionSteps.enc r0.snd], true⟩)]) fun (r1 : GRatio × GconversionSteps) =>
  callD r_conversion_steps_do (cw f_conversion_steps_do [.loc 1000 1 0 0, .fn f_ratio_Div [], .agg (dGRatio.enc r0.fst), .agg (dGRatio.enc r1.fst)] [(1000, ⟨1, ty_conversion_steps, [dGconversionSteps.enc r1.snd], true⟩)]) fun (r2 : GRatio × GconversionSteps) =>
  some (.agg (dGRatio.enc r2.fst), [(1000, ⟨1, ty_conversion_steps, [dGconversionSteps.enc r2.snd], true⟩)])) = some y) : cw f_conversion_steps_slope [.loc 1000 1 0 0, .agg (dGPoint.enc a1), .agg (dGPoint.enc a2)] [(1000, ⟨1, ty_conversion_steps, [dGconversionSteps.enc a0], true⟩)] = some y :=
  callw_tree R_conversion_steps_slope zT [] (by kernel_rfl) (by kernel_rfl) (by kernel_rfl) (by kernel_rfl) (by kernel_rfl) h

theorem e_ratio_Mul (a0 : GRatio) (a1 : GRatio) {y : AV × Mem} (h : (
  callD r_ratio_Valid (cw f_ratio_Valid [.agg (dGRatio.enc a0)] []) fun (r0 : Bool) =>
  brn (!r0) (some (.tup [.agg (dGRatio.enc (⟨0, 0⟩)), I 1], []))
  (callD r_ratio_Valid (cw f_ratio_Valid [.agg (dGRatio.enc a1)] []) fun (r1 : Bool) =>
   brn (!r1) (some (.tup [.agg (dGRatio.enc (⟨0, 0⟩)), I 1], []))
   (callD r_ratio_magnitude (cw f_ratio_magnitude [I a0.Num] []) fun (r2 : Int) =>
    callD r_ratio_magnitude (cw f_ratio_magnitude [I a1.Num] []) fun (r3 : Int) =>
    callD r_ratio_gcd (cw f_ratio_gcd [.v (.int .u64 r2), .v (.int .u64 (wu64 a1.Den))] []) fun (r4 : Int) =>
    callD r_ratio_gcd (cw f_ratio_gcd [.v (.int .u64 r3), .v (.int .u64 (wu64 a0.Den))] []) fun (r5 : Int) =>
    chk ((r4 : Int) ≠ 0) <|
    chk ((r5 : Int) ≠ 0) <|
    callD r_ratio_product (cw f_ratio_product [.v (.int .u64 (wu64 (r2.tdiv r4))), .v (.int .u64 (wu64 (r3.tdiv r5)))] []) fun (r6 : GratioWide) =>
    chk ((r5 : Int) ≠ 0) <|
    chk ((r4 : Int) ≠ 0) <|
    callD r_ratio_product (cw f_ratio_product [.v (.int .u64 (wu64 ((wu64 a0.Den).tdiv r5))), .v (.int .u64 (wu64 ((wu64 a1.Den).tdiv r4)))] []) fun (r7 : GratioWide) =>
    callD r_ratio_fitted (cw f_ratio_fitted [B (!decide (a0.Num < 0) == decide (a1.Num < 0)), .agg (dGratioWide.enc r6), .agg (dGratioWide.enc r7)] []) fun (r8 : GRatio × Int) =>
    some (.tup [.agg (dGRatio.enc r8.fst), I r8.snd], [])))) = some y) : cw f_ratio_Mul [.agg (dGRatio.enc a0), .agg (dGRatio.enc a1)] [] = some y :=
  callw_tree R_ratio_Mul zT [] (by kernel_rfl) (by kernel_rfl) (by kernel_rfl) (by kernel_rfl) (by kernel_rfl) h

theorem e_ref01_Valid (a0 : GRatio) {y : AV × Mem} (h : (
  brn (decide (a0.Den < 1)) (some (B false, []))
  (brn (decide (1152921504606846976 < a0.Den)) (some (B false, []))
   (brn (decide (a0.Num < -1152921504606846976)) (some (B false, []))
    (brn (decide (1152921504606846976 < a0.Num)) (some (B false, []))
     (callD r_ref01_Size (cw f_ref01_Size [I a0.Num] []) fun (r0 : Int) =>
      callD r_ref01_Size (cw f_ref01_Size [I a0.Den] []) fun (r1 : Int) =>
      callD r_ref01_Divisor (cw f_ref01_Divisor [.agg (dGref01Wide.enc (⟨0, r0⟩)), .agg (dGref01Wide.enc (⟨0, r1⟩))] []) fun (r2 : Gref01Wide) =>
      some (B (r2.Hi == 0 && (r2.Lo == 1 && true)), [])))))) = some y) : cw f_ref01_Valid [.agg (dGRatio.enc a0)] [] = some y :=
  callw_tree R_ref01_Valid zT [] (by kernel_rfl) (by kernel_rfl) (by kernel_rfl) (by kernel_rfl) (by kernel_rfl) h

theorem e_ref01_total (a0 : Bool) (a1 : Gref01Wide) (a2 : Bool) (a3 : Gref01Wide) {y : AV × Mem} (h : (
  brn (a0 == a2) (callD r_ref01_Plus (cw f_ref01_Plus [.agg (dGref01Wide.enc a1), .agg (dGref01Wide.enc a3)] []) fun (r0 : Gref01Wide) =>
   some (.tup [B a0, .agg (dGref01Wide.enc r0)], []))
  (callD r_ref01_Order (cw f_ref01_Order [.agg (dGref01Wide.enc a1), .agg (dGref01Wide.enc a3)] []) fun (r1 : Int) =>
   brn (decide (0 ≤ r1)) (callD r_ref01_Minus (cw f_ref01_Minus [.agg (dGref01Wide.enc a1), .agg (dGref01Wide.enc a3)] []) fun (r2 : Gref01Wide) =>
    some (.tup [B a0, .agg (dGref01Wide.enc r2)], []))
   (callD r_ref01_Minus (cw f_ref01_Minus [.agg (dGref01Wide.enc a3), .agg (dGref01Wide.enc a1)] []) fun (r3 : Gref01Wide) =>
    some (.tup [B a2, .agg (dGref01Wide.enc r3)], [])))) = some y) : cw f_ref01_total [B a0, .agg (dGref01Wide.enc a1), B a2, .agg (dGref01Wide.enc a3)] [] = some y :=
  callw_tree R_ref01_total zT [] (by kernel_rfl) (by kernel_rfl) (by kernel_rfl) (by kernel_rfl) (by kernel_rfl) h

theorem e_ref01_Product (a0 : Int) (a1 : Int) {y : AV × Mem} (h : (
  callD r_bits_Mul64 (cw f_bits_Mul64 [.v (.int .u64 a0), .v (.int .u64 a1)] []) fun (r0 : Int × Int) =>
  some (.agg (dGref01Wide.enc (⟨r0.fst, r0.snd⟩)), [])) = some y) : cw f_ref01_Product [.v (.int .u64 a0), .v (.int .u64 a1)] [] = some y :=
  callw_tree R_ref01_Product zT [] (by kernel_rfl) (by kernel_rfl) (by kernel_rfl) (by kernel_rfl) (by kernel_rfl) h

theorem e_ref01_Size (a0 : Int) {y : AV × Mem} (h : (
  brn (decide (a0 < 0)) (some (.v (.int .u64 (wu64 (wu64 (w64 (0 - w64 (a0 + 1))) + 1))), []))
  (some (.v (.int .u64 (wu64 a0)), []))) = some y) : cw f_ref01_Size [I a0] [] = some y :=
  callw_tree R_ref01_Size zT [] (by kernel_rfl) (by kernel_rfl) (by kernel_rfl) (by kernel_rfl) (by kernel_rfl) h

theorem e_ratio_rounded_toRound (a0 : GRatio) {y : AV × Mem} (h : (
  callD r_ratio_Valid (cw f_ratio_Valid [.agg (dGRatio.enc a0)] []) fun (r0 : Bool) =>
  brn (!r0) (some (I 0, []))
  (chk ((a0.Den : Int) ≠ 0) <|
   chk ((a0.Den : Int) ≠ 0) <|
   brn (decide (a0.Num.tmod a0.Den < 0)) (callD r_ratio_toRound (cw f_ratio_toRound [I (w64 (w64 (a0.Num.tdiv a0.Den) - 1)), I (w64 (a0.Num.tmod a0.Den + a0.Den)), I a0.Den] []) fun (r1 : Int) =>
    some (I r1, []))
   (callD r_ratio_toRound (cw f_ratio_toRound [I (w64 (a0.Num.tdiv a0.Den)), I (a0.Num.tmod a0.Den), I a0.Den] []) fun (r2 : Int) =>
    some (I r2, [])))) = some y) : cw f_ratio_rounded [.agg (dGRatio.enc a0), .fn f_ratio_toRound []] [] = some y :=
  callw_tree R_ratio_rounded zT [] (by kernel_rfl) (by kernel_rfl) (by kernel_rfl) (by kernel_rfl) (by kernel_rfl) h

theorem e_ratio_toRound (a0 : Int) (a1 : Int) (a2 : Int) {y : AV × Mem} (h : (
  brn (decide (w64 (a2 - a1) ≤ a1)) (some (I (w64 (a0 + 1)), []))
  (some (I a0, []))) = some y) : cw f_ratio_toRound [I a0, I a1, I a2] [] = some y :=
  callw_tree R_ratio_toRound zT [] (by kernel_rfl) (by kernel_rfl) (by kernel_rfl) (by kernel_rfl) (by kernel_rfl) h

noncomputable def k_slices_pdqsortCmpFunc_api_Ratio_1 (a0 : List GRatio) (x0 : List (List AV)) (x1 : Int) (x2 : Int) (x3 : Int) (x4 : Bool) (x5 : Bool) : Option (AV × Mem) := pt R_slices_pdqsortCmpFunc_api_Ratio 1 ⟨[(0, .row 1000 2 0 ((List.map dGRatio.enc a0).length)), (1, I x1), (2, I x2), (3, I x3), (4, .fn f_ratio_Compare []), (10, B x4), (11, B x5)], [(1000, ⟨2, ty_api_Ratio, x0, false⟩)]⟩

noncomputable def k_slices_pdqsortCmpFunc_api_Ratio_1010 (a0 : List GRatio) (x1 : Int) (x2 : Int) (x3 : Int) (x4 : Bool) (x5 : Bool) (r8 : (List GRatio)) : Option (AV × Mem) := pt R_slices_pdqsortCmpFunc_api_Ratio 1010 ⟨[(0, .row 1000 2 0 ((List.map dGRatio.enc a0).length)), (1, I x1), (2, I x2), (3, I (w64 (x3 - 1))), (4, .fn f_ratio_Compare []), (10, B x4), (11, B x5), (12, I (w64 (x2 - x1)))], [(1000, ⟨2, ty_api_Ratio, List.map dGRatio.enc r8, false⟩)]⟩

noncomputable def k_slices_pdqsortCmpFunc_api_Ratio_1010v1 (a0 : List GRatio) (x0 : List (List AV)) (x1 : Int) (x2 : Int) (x3 : Int) (x4 : Bool) (x5 : Bool) : Option (AV × Mem) := pt R_slices_pdqsortCmpFunc_api_Ratio 1010 ⟨[(0, .row 1000 2 0 ((List.map dGRatio.enc a0).length)), (1, I x1), (2, I x2), (3, I x3), (4, .fn f_ratio_Compare []), (10, B x4), (11, B x5), (12, I (w64 (x2 - x1))), (39, B false)], [(1000, ⟨2, ty_api_Ratio, x0, false⟩)]⟩

noncomputable def k_slices_pdqsortCmpFunc_api_Ratio_1015 (a0 : List GRatio) (x1 : Int) (x2 : Int) (x4 : Bool) (x5 : Bool) (x11 : List (List AV)) (x12 : Int) (x13 : Int) : Option (AV × Mem) := pt R_slices_pdqsortCmpFunc_api_Ratio 1015 ⟨[(0, .row 1000 2 0 ((List.map dGRatio.enc a0).length)), (1, I x1), (2, I x2), (3, I x12), (4, .fn f_ratio_Compare []), (10, B x4), (11, B x5), (12, I (w64 (x2 - x1))), (13, I x13), (14, I 1)], [(1000, ⟨2, ty_api_Ratio, x11, false⟩)]⟩

noncomputable def k_slices_pdqsortCmpFunc_api_Ratio_1015v1 (a0 : List GRatio) (x1 : Int) (x2 : Int) (x4 : Bool) (x5 : Bool) (x14 : List (List AV)) (x15 : Int) (x16 : Int) (x17 : Int) : Option (AV × Mem) := pt R_slices_pdqsortCmpFunc_api_Ratio 1015 ⟨[(0, .row 1000 2 0 ((List.map dGRatio.enc a0).length)), (1, I x1), (2, I x2), (3, I x15), (4, .fn f_ratio_Compare []), (10, B x4), (11, B x5), (12, I (w64 (x2 - x1))), (13, I x16), (14, I x17), (56, B false)], [(1000, ⟨2, ty_api_Ratio, x14, false⟩)]⟩

noncomputable def k_slices_pdqsortCmpFunc_api_Ratio_1017 (a0 : List GRatio) (x1 : Int) (x2 : Int) (x4 : Bool) (x5 : Bool) (x21 : List (List AV)) (x22 : Int) (x23 : Int) : Option (AV × Mem) := pt R_slices_pdqsortCmpFunc_api_Ratio 1017 ⟨[(0, .row 1000 2 0 ((List.map dGRatio.enc a0).length)), (1, I x1), (2, I x2), (3, I x22), (4, .fn f_ratio_Compare []), (10, B x4), (11, B x5), (12, I (w64 (x2 - x1))), (13, I x23), (80, B false)], [(1000, ⟨2, ty_api_Ratio, x21, false⟩)]⟩

noncomputable def k_slices_pdqsortCmpFunc_api_Ratio_1017v1 (a0 : List GRatio) (x1 : Int) (x2 : Int) (x4 : Bool) (x5 : Bool) (x24 : List (List AV)) (x25 : Int) (x26 : Int) : Option (AV × Mem) := pt R_slices_pdqsortCmpFunc_api_Ratio 1017 ⟨[(0, .row 1000 2 0 ((List.map dGRatio.enc a0).length)), (1, I x1), (2, I x2), (3, I x25), (4, .fn f_ratio_Compare []), (10, B x4), (11, B x5), (12, I (w64 (x2 - x1))), (13, I x26), (75, B false)], [(1000, ⟨2, ty_api_Ratio, x24, false⟩)]⟩

noncomputable def k_slices_pdqsortCmpFunc_api_Ratio_1020 (a0 : List GRatio) (x1 : Int) (x2 : Int) (x4 : Bool) (x5 : Bool) (x32 : List (List AV)) (x33 : Int) (x34 : Int) : Option (AV × Mem) := pt R_slices_pdqsortCmpFunc_api_Ratio 1020 ⟨[(0, .row 1000 2 0 ((List.map dGRatio.enc a0).length)), (1, I x1), (2, I x2), (3, I x33), (4, .fn f_ratio_Compare []), (10, B x4), (11, B x5), (12, I (w64 (x2 - x1))), (13, I x34), (97, B false)], [(1000, ⟨2, ty_api_Ratio, x32, false⟩)]⟩

theorem t_slices_pdqsortCmpFunc_api_Ratio_1 (a0 : List GRatio) (x0 : List (List AV)) (x1 : Int) (x2 : Int) (x3 : Int) (x4 : Bool) (x5 : Bool) {y : AV × Mem} (h : (
  brn (decide (w64 (x2 - x1) ≤ 12)) (callD r_slices_insertionSortCmpFunc_api_Ratio (cw f_slices_insertionSortCmpFunc_api_Ratio [.row 1000 2 0 ((List.map dGRatio.enc a0).length), I x1, I x2, .fn f_ratio_Compare []] [(1000, ⟨2, ty_api_Ratio, x0, false⟩)]) fun (r6 : (List GRatio)) =>
   some (.tup [], [(1000, ⟨2, ty_api_Ratio, List.map dGRatio.enc r6, false⟩)]))
  (brn (x3 == 0) (callD r_slices_heapSortCmpFunc_api_Ratio (cw f_slices_heapSortCmpFunc_api_Ratio [.row 1000 2 0 ((List.map dGRatio.enc a0).length), I x1, I x2, .fn f_ratio_Compare []] [(1000, ⟨2, ty_api_Ratio, x0, false⟩)]) fun (r7 : (List GRatio)) =>
    some (.tup [], [(1000, ⟨2, ty_api_Ratio, List.map dGRatio.enc r7, false⟩)]))
   (brn (!x4) (callD r_slices_breakPatternsCmpFunc_api_Ratio (cw f_slices_breakPatternsCmpFunc_api_Ratio [.row 1000 2 0 ((List.map dGRatio.enc a0).length), I x1, I x2, .fn f_ratio_Compare []] [(1000, ⟨2, ty_api_Ratio, x0, false⟩)]) fun (r8 : (List GRatio)) =>
     k_slices_pdqsortCmpFunc_api_Ratio_1010 a0 x1 x2 x3 x4 x5 r8)
    (k_slices_pdqsortCmpFunc_api_Ratio_1010v1 a0 x0 x1 x2 x3 x4 x5)))) = some y) : k_slices_pdqsortCmpFunc_api_Ratio_1 a0 x0 x1 x2 x3 x4 x5 = some y :=
  pt_of zT [20, 17, 15, 10] (by kernel_rfl) h

theorem t_slices_pdqsortCmpFunc_api_Ratio_1010 (a0 : List GRatio) (x1 : Int) (x2 : Int) (x3 : Int) (x4 : Bool) (x5 : Bool) (r8 : (List GRatio)) {y : AV × Mem} (h : (
  chk (0 + (List.map dGRatio.enc a0).length ≤ (List.map dGRatio.enc r8).length) <|
  callD r_slices_choosePivotCmpFunc_api_Ratio (cw f_slices_choosePivotCmpFunc_api_Ratio [.sl 2 (List.take ((List.map dGRatio.enc a0).length) (List.map dGRatio.enc r8)), I x1, I x2, .fn f_ratio_Compare []] []) fun (r9 : Int × Int) =>
  brn (r9.snd == 2) (callD r_slices_reverseRangeCmpFunc_api_Ratio (cw f_slices_reverseRangeCmpFunc_api_Ratio [.row 1000 2 0 ((List.map dGRatio.enc a0).length), I x1, I x2, .fn f_ratio_Compare []] [(1000, ⟨2, ty_api_Ratio, List.map dGRatio.enc r8, false⟩)]) fun (r10 : (List GRatio)) =>
   k_slices_pdqsortCmpFunc_api_Ratio_1015 a0 x1 x2 x4 x5 (List.map dGRatio.enc r10) (w64 (x3 - 1)) (w64 (w64 (x2 - 1) - w64 (r9.fst - x1))))
  (k_slices_pdqsortCmpFunc_api_Ratio_1015v1 a0 x1 x2 x4 x5 (List.map dGRatio.enc r8) (w64 (x3 - 1)) r9.fst r9.snd)) = some y) : k_slices_pdqsortCmpFunc_api_Ratio_1010 a0 x1 x2 x3 x4 x5 r8 = some y :=
  pt_of zT [20, 17, 15, 10] (by kernel_rfl) h

theorem t_slices_pdqsortCmpFunc_api_Ratio_1010v1 (a0 : List GRatio) (x0 : List (List AV)) (x1 : Int) (x2 : Int) (x3 : Int) (x4 : Bool) (x5 : Bool) {y : AV × Mem} (h : (
  chk (0 + (List.map dGRatio.enc a0).length ≤ x0.length) <|
  callD r_slices_choosePivotCmpFunc_api_Ratio (cw f_slices_choosePivotCmpFunc_api_Ratio [.sl 2 (List.take ((List.map dGRatio.enc a0).length) x0), I x1, I x2, .fn f_ratio_Compare []] []) fun (r18 : Int × Int) =>
  brn (r18.snd == 2) (callD r_slices_reverseRangeCmpFunc_api_Ratio (cw f_slices_reverseRangeCmpFunc_api_Ratio [.row 1000 2 0 ((List.map dGRatio.enc a0).length), I x1, I x2, .fn f_ratio_Compare []] [(1000, ⟨2, ty_api_Ratio, x0, false⟩)]) fun (r19 : (List GRatio)) =>
   k_slices_pdqsortCmpFunc_api_Ratio_1015 a0 x1 x2 x4 x5 (List.map dGRatio.enc r19) x3 (w64 (w64 (x2 - 1) - w64 (r18.fst - x1))))
  (k_slices_pdqsortCmpFunc_api_Ratio_1015v1 a0 x1 x2 x4 x5 x0 x3 r18.fst r18.snd)) = some y) : k_slices_pdqsortCmpFunc_api_Ratio_1010v1 a0 x0 x1 x2 x3 x4 x5 = some y :=
  pt_of zT [20, 17, 15, 10] (by kernel_rfl) h

theorem t_slices_pdqsortCmpFunc_api_Ratio_1015 (a0 : List GRatio) (x1 : Int) (x2 : Int) (x4 : Bool) (x5 : Bool) (x11 : List (List AV)) (x12 : Int) (x13 : Int) {y : AV × Mem} (h : (
  brn x4 (brn x5 (brn (1 == 1) (callD r_slices_partialInsertionSortCmpFunc_api_Ratio (cw f_slices_partialInsertionSortCmpFunc_api_Ratio [.row 1000 2 0 ((List.map dGRatio.enc a0).length), I x1, I x2, .fn f_ratio_Compare []] [(1000, ⟨2, ty_api_Ratio, x11, false⟩)]) fun (r20 : Bool × (List GRatio)) =>
     brn r20.fst (some (.tup [], [(1000, ⟨2, ty_api_Ratio, List.map dGRatio.enc r20.snd, false⟩)]))
     (k_slices_pdqsortCmpFunc_api_Ratio_1017 a0 x1 x2 x4 x5 (List.map dGRatio.enc r20.snd) x12 x13))
    (k_slices_pdqsortCmpFunc_api_Ratio_1017v1 a0 x1 x2 x4 x5 x11 x12 x13))
   (k_slices_pdqsortCmpFunc_api_Ratio_1017v1 a0 x1 x2 x4 x5 x11 x12 x13))
  (k_slices_pdqsortCmpFunc_api_Ratio_1017v1 a0 x1 x2 x4 x5 x11 x12 x13)) = some y) : k_slices_pdqsortCmpFunc_api_Ratio_1015 a0 x1 x2 x4 x5 x11 x12 x13 = some y :=
  pt_of zT [20, 17, 15, 10] (by kernel_rfl) h

theorem t_slices_pdqsortCmpFunc_api_Ratio_1015v1 (a0 : List GRatio) (x1 : Int) (x2 : Int) (x4 : Bool) (x5 : Bool) (x14 : List (List AV)) (x15 : Int) (x16 : Int) (x17 : Int) {y : AV × Mem} (h : (
  brn x4 (brn x5 (brn (x17 == 1) (callD r_slices_partialInsertionSortCmpFunc_api_Ratio (cw f_slices_partialInsertionSortCmpFunc_api_Ratio [.row 1000 2 0 ((List.map dGRatio.enc a0).length), I x1, I x2, .fn f_ratio_Compare []] [(1000, ⟨2, ty_api_Ratio, x14, false⟩)]) fun (r27 : Bool × (List GRatio)) =>
     brn r27.fst (some (.tup [], [(1000, ⟨2, ty_api_Ratio, List.map dGRatio.enc r27.snd, false⟩)]))
     (k_slices_pdqsortCmpFunc_api_Ratio_1017 a0 x1 x2 x4 x5 (List.map dGRatio.enc r27.snd) x15 x16))
    (k_slices_pdqsortCmpFunc_api_Ratio_1017v1 a0 x1 x2 x4 x5 x14 x15 x16))
   (k_slices_pdqsortCmpFunc_api_Ratio_1017v1 a0 x1 x2 x4 x5 x14 x15 x16))
  (k_slices_pdqsortCmpFunc_api_Ratio_1017v1 a0 x1 x2 x4 x5 x14 x15 x16)) = some y) : k_slices_pdqsortCmpFunc_api_Ratio_1015v1 a0 x1 x2 x4 x5 x14 x15 x16 x17 = some y :=
  pt_of zT [20, 17, 15, 10] (by kernel_rfl) h

theorem t_slices_pdqsortCmpFunc_api_Ratio_1017 (a0 : List GRatio) (x1 : Int) (x2 : Int) (x4 : Bool) (x5 : Bool) (x21 : List (List AV)) (x22 : Int) (x23 : Int) {y : AV × Mem} (h : (
  brn (decide (0 < x1)) (chk ((0 : Int) ≤ (w64 (x1 - 1))) <|
   chk ((w64 (x1 - 1) : Int) < ((↑(List.map dGRatio.enc a0).length : Int))) <|
   elemD dGRatio x21 (0 + (w64 (x1 - 1)).toNat) fun (c28 : GRatio) =>
   chk ((0 : Int) ≤ x23) <|
   chk ((x23 : Int) < ((↑(List.map dGRatio.enc a0).length : Int))) <|
   elemD dGRatio x21 (0 + x23.toNat) fun (c29 : GRatio) =>
   callD r_ratio_Compare (cw f_ratio_Compare [.agg (dGRatio.enc c28), .agg (dGRatio.enc c29)] []) fun (r30 : Int) =>
   brn (!decide (r30 < 0)) (callD r_slices_partitionEqualCmpFunc_api_Ratio (cw f_slices_partitionEqualCmpFunc_api_Ratio [.row 1000 2 0 ((List.map dGRatio.enc a0).length), I x1, I x2, I x23, .fn f_ratio_Compare []] [(1000, ⟨2, ty_api_Ratio, x21, false⟩)]) fun (r31 : Int × (List GRatio)) =>
    k_slices_pdqsortCmpFunc_api_Ratio_1 a0 (List.map dGRatio.enc r31.snd) r31.fst x2 x22 x4 x5)
   (k_slices_pdqsortCmpFunc_api_Ratio_1020 a0 x1 x2 x4 x5 x21 x22 x23))
  (k_slices_pdqsortCmpFunc_api_Ratio_1020 a0 x1 x2 x4 x5 x21 x22 x23)) = some y) : k_slices_pdqsortCmpFunc_api_Ratio_1017 a0 x1 x2 x4 x5 x21 x22 x23 = some y :=
  pt_of zT [20, 17, 15, 10] (by kernel_rfl) h

theorem t_slices_pdqsortCmpFunc_api_Ratio_1017v1 (a0 : List GRatio) (x1 : Int) (x2 : Int) (x4 : Bool) (x5 : Bool) (x24 : List (List AV)) (x25 : Int) (x26 : Int) {y : AV × Mem} (h : (
  brn (decide (0 < x1)) (chk ((0 : Int) ≤ (w64 (x1 - 1))) <|
   chk ((w64 (x1 - 1) : Int) < ((↑(List.map dGRatio.enc a0).length : Int))) <|
   elemD dGRatio x24 (0 + (w64 (x1 - 1)).toNat) fun (c35 : GRatio) =>
   chk ((0 : Int) ≤ x26) <|
   chk ((x26 : Int) < ((↑(List.map dGRatio.enc a0).length : Int))) <|
   elemD dGRatio x24 (0 + x26.toNat) fun (c36 : GRatio) =>
   callD r_ratio_Compare (cw f_ratio_Compare [.agg (dGRatio.enc c35), .agg (dGRatio.enc c36)] []) fun (r37 : Int) =>
   brn (!decide (r37 < 0)) (callD r_slices_partitionEqualCmpFunc_api_Ratio (cw f_slices_partitionEqualCmpFunc_api_Ratio [.row 1000 2 0 ((List.map dGRatio.enc a0).length), I x1, I x2, I x26, .fn f_ratio_Compare []] [(1000, ⟨2, ty_api_Ratio, x24, false⟩)]) fun (r38 : Int × (List GRatio)) =>
    k_slices_pdqsortCmpFunc_api_Ratio_1 a0 (List.map dGRatio.enc r38.snd) r38.fst x2 x25 x4 x5)
   (k_slices_pdqsortCmpFunc_api_Ratio_1020 a0 x1 x2 x4 x5 x24 x25 x26))
  (k_slices_pdqsortCmpFunc_api_Ratio_1020 a0 x1 x2 x4 x5 x24 x25 x26)) = some y) : k_slices_pdqsortCmpFunc_api_Ratio_1017v1 a0 x1 x2 x4 x5 x24 x25 x26 = some y :=
  pt_of zT [20, 17, 15, 10] (by kernel_rfl) h

theorem t_slices_pdqsortCmpFunc_api_Ratio_1020 (a0 : List GRatio) (x1 : Int) (x2 : Int) (x4 : Bool) (x5 : Bool) (x32 : List (List AV)) (x33 : Int) (x34 : Int) {y : AV × Mem} (h : (
  callD r_slices_partitionCmpFunc_api_Ratio (cw f_slices_partitionCmpFunc_api_Ratio [.row 1000 2 0 ((List.map dGRatio.enc a0).length), I x1, I x2, I x34, .fn f_ratio_Compare []] [(1000, ⟨2, ty_api_Ratio, x32, false⟩)]) fun (r39 : (Int × Bool) × (List GRatio)) =>
  chk ((8 : Int) ≠ 0) <|
  brn (decide (w64 (r39.fst.fst - x1) < w64 (x2 - r39.fst.fst))) (callD r_slices_pdqsortCmpFunc_api_Ratio (cw f_slices_pdqsortCmpFunc_api_Ratio [.row 1000 2 0 ((List.map dGRatio.enc a0).length), I x1, I r39.fst.fst, I x33, .fn f_ratio_Compare []] [(1000, ⟨2, ty_api_Ratio, List.map dGRatio.enc r39.snd, false⟩)]) fun (r40 : (List GRatio)) =>
   k_slices_pdqsortCmpFunc_api_Ratio_1 a0 (List.map dGRatio.enc r40) (w64 (r39.fst.fst + 1)) x2 x33 (decide (w64 ((w64 (x2 - x1)).tdiv 8) ≤ w64 (r39.fst.fst - x1))) r39.fst.snd)
  (callD r_slices_pdqsortCmpFunc_api_Ratio (cw f_slices_pdqsortCmpFunc_api_Ratio [.row 1000 2 0 ((List.map dGRatio.enc a0).length), I (w64 (r39.fst.fst + 1)), I x2, I x33, .fn f_ratio_Compare []] [(1000, ⟨2, ty_api_Ratio, List.map dGRatio.enc r39.snd, false⟩)]) fun (r41 : (List GRatio)) =>
   k_slices_pdqsortCmpFunc_api_Ratio_1 a0 (List.map dGRatio.enc r41) x1 r39.fst.fst x33 (decide (w64 ((w64 (x2 - x1)).tdiv 8) ≤ w64 (x2 - r39.fst.fst))) r39.fst.snd)) = some y) : k_slices_pdqsortCmpFunc_api_Ratio_1020 a0 x1 x2 x4 x5 x32 x33 x34 = some y :=
  pt_of zT [20, 17, 15, 10] (by kernel_rfl) h

theorem e_slices_pdqsortCmpFunc_api_Ratio (a0 : List GRatio) (a1 : Int) (a2 : Int) (a3 : Int) {y : AV × Mem} (h : (
  k_slices_pdqsortCmpFunc_api_Ratio_1 a0 (List.map dGRatio.enc a0) a1 a2 a3 true true) = some y) : cw f_slices_pdqsortCmpFunc_api_Ratio [.row 1000 2 0 (List.length (List.map dGRatio.enc a0)), I a1, I a2, I a3, .fn f_ratio_Compare []] [(1000, ⟨2, ty_api_Ratio, List.map dGRatio.enc a0, false⟩)] = some y :=
  callw_tree R_slices_pdqsortCmpFunc_api_Ratio zT [20, 17, 15, 10] (by kernel_rfl) (by kernel_rfl) (by kernel_rfl) (by kernel_rfl) (by kernel_rfl) h

theorem e_bits_Len (a0 : Int) {y : AV × Mem} (h : (
  callD r_bits_Len64 (cw f_bits_Len64 [.v (.int .u64 a0)] []) fun (r0 : Int) =>
  some (I r0, [])) = some y) : cw f_bits_Len [.v (.int .u64 a0)] [] = some y :=
  callw_tree R_bits_Len zT [] (by kernel_rfl) (by kernel_rfl) (by kernel_rfl) (by kernel_rfl) (by kernel_rfl) h

theorem e_ratio_signedProduct (a0 : Int) (a1 : Int) {y : AV × Mem} (h : (
  callD r_ratio_magnitude (cw f_ratio_magnitude [I a0] []) fun (r0 : Int) =>
  callD r_ratio_product (cw f_ratio_product [.v (.int .u64 r0), .v (.int .u64 a1)] []) fun (r1 : GratioWide) =>
  some (.agg (dGratioSigned.enc (⟨decide (a0 < 0), ⟨r1.hi, r1.lo⟩⟩)), [])) = some y) : cw f_ratio_signedProduct [I a0, .v (.int .u64 a1)] [] = some y :=
  callw_tree R_ratio_signedProduct zT [] (by kernel_rfl) (by kernel_rfl) (by kernel_rfl) (by kernel_rfl) (by kernel_rfl) h

theorem e_ratio_wide_compare (a0 : GratioWide) (a1 : GratioWide) {y : AV × Mem} (h : (
  callD r_cmp_Compare_uint64 (cw f_cmp_Compare_uint64 [.v (.int .u64 a0.hi), .v (.int .u64 a1.hi)] []) fun (r0 : Int) =>
  brn (r0 != 0) (some (I r0, []))
  (callD r_cmp_Compare_uint64 (cw f_cmp_Compare_uint64 [.v (.int .u64 a0.lo), .v (.int .u64 a1.lo)] []) fun (r1 : Int) =>
   some (I r1, []))) = some y) : cw f_ratio_wide_compare [.agg (dGratioWide.enc a0), .agg (dGratioWide.enc a1)] [] = some y :=
  callw_tree R_ratio_wide_compare zT [] (by kernel_rfl) (by kernel_rfl) (by kernel_rfl) (by kernel_rfl) (by kernel_rfl) h

theorem e_ratio_signed_plus (a0 : GratioSigned) (a1 : GratioSigned) {y : AV × Mem} (h : (
  brn (a0.neg == a1.neg) (callD r_ratio_wide_plus (cw f_ratio_wide_plus [.agg (dGratioWide.enc a0.abs), .agg (dGratioWide.enc a1.abs)] []) fun (r0 : GratioWide) =>
   some (.agg (dGratioSigned.enc (⟨a0.neg, ⟨r0.hi, r0.lo⟩⟩)), []))
  (callD r_ratio_wide_compare (cw f_ratio_wide_compare [.agg (dGratioWide.enc a0.abs), .agg (dGratioWide.enc a1.abs)] []) fun (r1 : Int) =>
   brn (decide (0 ≤ r1)) (callD r_ratio_wide_minus (cw f_ratio_wide_minus [.agg (dGratioWide.enc a0.abs), .agg (dGratioWide.enc a1.abs)] []) fun (r2 : GratioWide) =>
    some (.agg (dGratioSigned.enc (⟨a0.neg, ⟨r2.hi, r2.lo⟩⟩)), []))
   (callD r_ratio_wide_minus (cw f_ratio_wide_minus [.agg (dGratioWide.enc a1.abs), .agg (dGratioWide.enc a0.abs)] []) fun (r3 : GratioWide) =>
    some (.agg (dGratioSigned.enc (⟨a1.neg, ⟨r3.hi, r3.lo⟩⟩)), [])))) = some y) : cw f_ratio_signed_plus [.agg (dGratioSigned.enc a0), .agg (dGratioSigned.enc a1)] [] = some y :=
  callw_tree R_ratio_signed_plus zT [] (by kernel_rfl) (by kernel_rfl) (by kernel_rfl) (by kernel_rfl) (by kernel_rfl) h

theorem e_ratio_wide_mod (a0 : GratioWide) (a1 : Int) {y : AV × Mem} (h : (
  callD r_bits_Rem64 (cw f_bits_Rem64 [.v (.int .u64 a0.hi), .v (.int .u64 a0.lo), .v (.int .u64 a1)] []) fun (r0 : Int) =>
  some (.v (.int .u64 r0), [])) = some y) : cw f_ratio_wide_mod [.agg (dGratioWide.enc a0), .v (.int .u64 a1)] [] = some y :=
  callw_tree R_ratio_wide_mod zT [] (by kernel_rfl) (by kernel_rfl) (by kernel_rfl) (by kernel_rfl) (by kernel_rfl) h

theorem e_ratio_fitted (a0 : Bool) (a1 : GratioWide) (a2 : GratioWide) {y : AV × Mem} (h : (
  brn (a1.hi != 0) (some (.tup [.agg (dGRatio.enc (⟨0, 0⟩)), I 6], []))
  (brn (a2.hi != 0) (some (.tup [.agg (dGRatio.enc (⟨0, 0⟩)), I 6], []))
   (brn (decide (1152921504606846976 < a1.lo)) (some (.tup [.agg (dGRatio.enc (⟨0, 0⟩)), I 6], []))
    (brn (decide (1152921504606846976 < a2.lo)) (some (.tup [.agg (dGRatio.enc (⟨0, 0⟩)), I 6], []))
     (brn a0 (some (.tup [.agg (dGRatio.enc (⟨w64 (0 - w64 a1.lo), w64 a2.lo⟩)), I 0], []))
      (some (.tup [.agg (dGRatio.enc (⟨w64 a1.lo, w64 a2.lo⟩)), I 0], []))))))) = some y) : cw f_ratio_fitted [B a0, .agg (dGratioWide.enc a1), .agg (dGratioWide.enc a2)] [] = some y :=
  callw_tree R_ratio_fitted zT [] (by kernel_rfl) (by kernel_rfl) (by kernel_rfl) (by kernel_rfl) (by kernel_rfl) h

theorem e_ratio_wide_over (a0 : GratioWide) (a1 : Int) {y : AV × Mem} (h : (
  chk ((a1 : Int) ≠ 0) <|
  chk ((a1 : Int) ≠ 0) <|
  callD r_bits_Div64 (cw f_bits_Div64 [.v (.int .u64 (a0.hi.tmod a1)), .v (.int .u64 a0.lo), .v (.int .u64 a1)] []) fun (r0 : Int × Int) =>
  some (.agg (dGratioWide.enc (⟨wu64 (a0.hi.tdiv a1), r0.fst⟩)), [])) = some y) : cw f_ratio_wide_over [.agg (dGratioWide.enc a0), .v (.int .u64 a1)] [] = some y :=
  callw_tree R_ratio_wide_over zT [] (by kernel_rfl) (by kernel_rfl) (by kernel_rfl) (by kernel_rfl) (by kernel_rfl) h

theorem e_ratio_product (a0 : Int) (a1 : Int) {y : AV × Mem} (h : (
  callD r_bits_Mul64 (cw f_bits_Mul64 [.v (.int .u64 a0), .v (.int .u64 a1)] []) fun (r0 : Int × Int) =>
  some (.agg (dGratioWide.enc (⟨r0.fst, r0.snd⟩)), [])) = some y) : cw f_ratio_product [.v (.int .u64 a0), .v (.int .u64 a1)] [] = some y :=
  callw_tree R_ratio_product zT [] (by kernel_rfl) (by kernel_rfl) (by kernel_rfl) (by kernel_rfl) (by kernel_rfl) h

theorem e_ratio_Div (a0 : GRatio) (a1 : GRatio) {y : AV × Mem} (h : (
  callD r_ratio_Valid (cw f_ratio_Valid [.agg (dGRatio.enc a0)] []) fun (r0 : Bool) =>
  brn (!r0) (some (.tup [.agg (dGRatio.enc (⟨0, 0⟩)), I 1], []))
  (callD r_ratio_Valid (cw f_ratio_Valid [.agg (dGRatio.enc a1)] []) fun (r1 : Bool) =>
   brn (!r1) (some (.tup [.agg (dGRatio.enc (⟨0, 0⟩)), I 1], []))
   (brn (a1.Num == 0) (some (.tup [.agg (dGRatio.enc (⟨0, 0⟩)), I 2], []))
    (brn (decide (a1.Num < 0)) (callD r_ratio_Mul (cw f_ratio_Mul [.agg (dGRatio.enc a0), .agg (dGRatio.enc (⟨w64 (0 - a1.Den), w64 (0 - a1.Num)⟩))] []) fun (r2 : GRatio × Int) =>
      some (.tup [.agg (dGRatio.enc r2.fst), I r2.snd], []))
     (callD r_ratio_Mul (cw f_ratio_Mul [.agg (dGRatio.enc a0), .agg (dGRatio.enc (⟨a1.Den, a1.Num⟩))] []) fun (r3 : GRatio × Int) =>
      some (.tup [.agg (dGRatio.enc r3.fst), I r3.snd], [])))))) = some y) : cw f_ratio_Div [.agg (dGRatio.enc a0), .agg (dGRatio.enc a1)] [] = some y :=
  callw_tree R_ratio_Div zT [] (by kernel_rfl) (by kernel_rfl) (by kernel_rfl) (by kernel_rfl) (by kernel_rfl) h

noncomputable def k_ref01_Divisor_1 (x0 : Gref01Wide) (x1 : Gref01Wide) : Option (AV × Mem) := pt R_ref01_Divisor 1 ⟨[(2, .loc 2 2 0 0), (3, .loc 3 2 0 0), (4, .loc 4 2 0 0)], [(2, ⟨2, ty_ref01_Wide, [dGref01Wide.enc x0], true⟩), (3, ⟨2, ty_ref01_Wide, [dGref01Wide.enc x1], true⟩), (4, ⟨2, ty_ref01_Wide, [dGref01Wide.enc (⟨0, 0⟩)], true⟩)]⟩

theorem t_ref01_Divisor_1 (x0 : Gref01Wide) (x1 : Gref01Wide) {y : AV × Mem} (h : (
  brn (!(x1.Hi == 0 && (x1.Lo == 0 && true))) (callD r_ref01_Divide (cw f_ref01_Divide [.agg (dGref01Wide.enc x0), .agg (dGref01Wide.enc x1)] []) fun (r2 : Gref01Wide × Gref01Wide) =>
   k_ref01_Divisor_1 x1 r2.snd)
  (some (.agg (dGref01Wide.enc x0), []))) = some y) : k_ref01_Divisor_1 x0 x1 = some y :=
  pt_of zT [] (by kernel_rfl) h

theorem e_ref01_Divisor (a0 : Gref01Wide) (a1 : Gref01Wide) {y : AV × Mem} (h : (
  k_ref01_Divisor_1 a0 a1) = some y) : cw f_ref01_Divisor [.agg (dGref01Wide.enc a0), .agg (dGref01Wide.enc a1)] [] = some y :=
  callw_tree R_ref01_Divisor zT [] (by kernel_rfl) (by kernel_rfl) (by kernel_rfl) (by kernel_rfl) (by kernel_rfl) h

theorem e_ref01_Plus (a0 : Gref01Wide) (a1 : Gref01Wide) {y : AV × Mem} (h : (
  brn (Int.ofNat ((a0.Lo.toNat + a1.Lo.toNat + Int.toNat 0) / 2 ^ 64) == 0) (some (.agg (dGref01Wide.enc (⟨Int.ofNat ((a0.Hi.toNat + a1.Hi.toNat + Int.toNat 0) % 2 ^ 64), Int.ofNat ((a0.Lo.toNat + a1.Lo.toNat + Int.toNat 0) % 2 ^ 64)⟩)), []))
  (brn (Int.ofNat ((a0.Lo.toNat + a1.Lo.toNat + Int.toNat 0) / 2 ^ 64) == 1) (some (.agg (dGref01Wide.enc (⟨Int.ofNat ((a0.Hi.toNat + a1.Hi.toNat + Int.toNat 1) % 2 ^ 64), Int.ofNat ((a0.Lo.toNat + a1.Lo.toNat + Int.toNat 0) % 2 ^ 64)⟩)), []))
   (none))) = some y) : cw f_ref01_Plus [.agg (dGref01Wide.enc a0), .agg (dGref01Wide.enc a1)] [] = some y :=
  callw_tree R_ref01_Plus zT [] (by kernel_rfl) (by kernel_rfl) (by kernel_rfl) (by kernel_rfl) (by kernel_rfl) h

theorem e_ref01_Order (a0 : Gref01Wide) (a1 : Gref01Wide) {y : AV × Mem} (h : (
  brn (decide (a0.Hi < a1.Hi)) (some (I (-1), []))
  (brn (a0.Hi == a1.Hi) (brn (decide (a0.Lo < a1.Lo)) (some (I (-1), []))
    (brn (a0.Hi == a1.Hi && (a0.Lo == a1.Lo && true)) (some (I 0, []))
     (some (I 1, []))))
   (brn (a0.Hi == a1.Hi && (a0.Lo == a1.Lo && true)) (some (I 0, []))
    (some (I 1, []))))) = some y) : cw f_ref01_Order [.agg (dGref01Wide.enc a0), .agg (dGref01Wide.enc a1)] [] = some y :=
  callw_tree R_ref01_Order zT [] (by kernel_rfl) (by kernel_rfl) (by kernel_rfl) (by kernel_rfl) (by kernel_rfl) h

theorem e_ref01_Minus (a0 : Gref01Wide) (a1 : Gref01Wide) {y : AV × Mem} (h : (
  brn (Int.ofNat (if a0.Lo.toNat < a1.Lo.toNat + Int.toNat 0 then 1 else 0) == 0) (some (.agg (dGref01Wide.enc (⟨Int.ofNat ((a0.Hi.toNat + 2 ^ 64 - a1.Hi.toNat - Int.toNat 0) % 2 ^ 64), Int.ofNat ((a0.Lo.toNat + 2 ^ 64 - a1.Lo.toNat - Int.toNat 0) % 2 ^ 64)⟩)), []))
  (brn (Int.ofNat (if a0.Lo.toNat < a1.Lo.toNat + Int.toNat 0 then 1 else 0) == 1) (some (.agg (dGref01Wide.enc (⟨Int.ofNat ((a0.Hi.toNat + 2 ^ 64 - a1.Hi.toNat - Int.toNat 1) % 2 ^ 64), Int.ofNat ((a0.Lo.toNat + 2 ^ 64 - a1.Lo.toNat - Int.toNat 0) % 2 ^ 64)⟩)), []))
   (none))) = some y) : cw f_ref01_Minus [.agg (dGref01Wide.enc a0), .agg (dGref01Wide.enc a1)] [] = some y :=
  callw_tree R_ref01_Minus zT [] (by kernel_rfl) (by kernel_rfl) (by kernel_rfl) (by kernel_rfl) (by kernel_rfl) h

theorem e_bits_Mul64 (a0 : Int) (a1 : Int) {y : AV × Mem} (h : (
  chk ((0 : Int) ≤ 32) <|
  chk ((0 : Int) ≤ 32) <|
  chk ((0 : Int) ≤ 32) <|
  chk ((0 : Int) ≤ 32) <|
  chk ((0 : Int) ≤ 32) <|
  some (.tup [.v (.int .u64 (wu64 (wu64 (wu64 (a0.fdiv (2 ^ Min.min (Int.toNat 32) 64) * a1.fdiv (2 ^ Min.min (Int.toNat 32) 64)) + (wu64 (wu64 (a0.fdiv (2 ^ Min.min (Int.toNat 32) 64) * wu64 (↑((a1 % Int.ofNat (2 ^ 64)).toNat &&& (4294967295 % Int.ofNat (2 ^ 64)).toNat) : Int)) + (wu64 (wu64 (↑((a0 % Int.ofNat (2 ^ 64)).toNat &&& (4294967295 % Int.ofNat (2 ^ 64)).toNat) : Int) * wu64 (↑((a1 % Int.ofNat (2 ^ 64)).toNat &&& (4294967295 % Int.ofNat (2 ^ 64)).toNat) : Int))).fdiv (2 ^ Min.min (Int.toNat 32) 64))).fdiv (2 ^ Min.min (Int.toNat 32) 64)) + (wu64 (wu64 (↑((wu64 (wu64 (a0.fdiv (2 ^ Min.min (Int.toNat 32) 64) * wu64 (↑((a1 % Int.ofNat (2 ^ 64)).toNat &&& (4294967295 % Int.ofNat (2 ^ 64)).toNat) : Int)) + (wu64 (wu64 (↑((a0 % Int.ofNat (2 ^ 64)).toNat &&& (4294967295 % Int.ofNat (2 ^ 64)).toNat) : Int) * wu64 (↑((a1 % Int.ofNat (2 ^ 64)).toNat &&& (4294967295 % Int.ofNat (2 ^ 64)).toNat) : Int))).fdiv (2 ^ Min.min (Int.toNat 32) 64)) % Int.ofNat (2 ^ 64)).toNat &&& (4294967295 % Int.ofNat (2 ^ 64)).toNat) : Int) + wu64 (wu64 (↑((a0 % Int.ofNat (2 ^ 64)).toNat &&& (4294967295 % Int.ofNat (2 ^ 64)).toNat) : Int) * a1.fdiv (2 ^ Min.min (Int.toNat 32) 64)))).fdiv (2 ^ Min.min (Int.toNat 32) 64)))), .v (.int .u64 (wu64 (a0 * a1)))], [])) = some y) : cw f_bits_Mul64 [.v (.int .u64 a0), .v (.int .u64 a1)] [] = some y :=
  callw_tree R_bits_Mul64 zT [] (by kernel_rfl) (by kernel_rfl) (by kernel_rfl) (by kernel_rfl) (by kernel_rfl) h

noncomputable def k_slices_insertionSortCmpFunc_api_Ratio_1 (a0 : List GRatio) (a1 : Int) (a2 : Int) (x0 : List (List AV)) (x1 : Int) : Option (AV × Mem) := pt R_slices_insertionSortCmpFunc_api_Ratio 1 ⟨[(0, .row 1000 2 0 ((List.map dGRatio.enc a0).length)), (1, I a1), (2, I a2), (3, .fn f_ratio_Compare []), (8, I x1)], [(1000, ⟨2, ty_api_Ratio, x0, false⟩)]⟩

noncomputable def k_slices_insertionSortCmpFunc_api_Ratio_2 (a0 : List GRatio) (a1 : Int) (a2 : Int) (x1 : Int) (x2 : List (List AV)) (x3 : Int) : Option (AV × Mem) := pt R_slices_insertionSortCmpFunc_api_Ratio 2 ⟨[(0, .row 1000 2 0 ((List.map dGRatio.enc a0).length)), (1, I a1), (2, I a2), (3, .fn f_ratio_Compare []), (8, I x1), (9, I x3)], [(1000, ⟨2, ty_api_Ratio, x2, false⟩)]⟩

theorem t_slices_insertionSortCmpFunc_api_Ratio_1 (a0 : List GRatio) (a1 : Int) (a2 : Int) (x0 : List (List AV)) (x1 : Int) {y : AV × Mem} (h : (
  brn (decide (x1 < a2)) (k_slices_insertionSortCmpFunc_api_Ratio_2 a0 a1 a2 x1 x0 x1)
  (some (.tup [], [(1000, ⟨2, ty_api_Ratio, x0, false⟩)]))) = some y) : k_slices_insertionSortCmpFunc_api_Ratio_1 a0 a1 a2 x0 x1 = some y :=
  pt_of zT [] (by kernel_rfl) h

theorem t_slices_insertionSortCmpFunc_api_Ratio_2 (a0 : List GRatio) (a1 : Int) (a2 : Int) (x1 : Int) (x2 : List (List AV)) (x3 : Int) {y : AV × Mem} (h : (
  brn (decide (a1 < x3)) (chk ((0 : Int) ≤ x3) <|
   chk ((x3 : Int) < ((↑(List.map dGRatio.enc a0).length : Int))) <|
   elemD dGRatio x2 (0 + x3.toNat) fun (c4 : GRatio) =>
   chk ((0 : Int) ≤ (w64 (x3 - 1))) <|
   chk ((w64 (x3 - 1) : Int) < ((↑(List.map dGRatio.enc a0).length : Int))) <|
   elemD dGRatio x2 (0 + (w64 (x3 - 1)).toNat) fun (c5 : GRatio) =>
   callD r_ratio_Compare (cw f_ratio_Compare [.agg (dGRatio.enc c4), .agg (dGRatio.enc c5)] []) fun (r6 : Int) =>
   brn (decide (r6 < 0)) (chk ((0 : Int) ≤ (w64 (x3 - 1))) <|
    chk ((w64 (x3 - 1) : Int) < ((↑(List.map dGRatio.enc a0).length : Int))) <|
    elemD dGRatio x2 (0 + (w64 (x3 - 1)).toNat) fun (c7 : GRatio) =>
    chk ((0 : Int) ≤ x3) <|
    chk ((x3 : Int) < ((↑(List.map dGRatio.enc a0).length : Int))) <|
    elemD dGRatio x2 (0 + x3.toNat) fun (c8 : GRatio) =>
    chk ((0 : Int) ≤ x3) <|
    chk ((x3 : Int) < ((↑(List.map dGRatio.enc a0).length : Int))) <|
    elemD dGRatio x2 (0 + x3.toNat) fun (c9 : GRatio) =>
    chk ((0 : Int) ≤ (w64 (x3 - 1))) <|
    chk ((w64 (x3 - 1) : Int) < ((↑(List.map dGRatio.enc a0).length : Int))) <|
    elemD dGRatio (List.set x2 (0 + x3.toNat) (dGRatio.enc c7)) (0 + (w64 (x3 - 1)).toNat) fun (c10 : GRatio) =>
    k_slices_insertionSortCmpFunc_api_Ratio_2 a0 a1 a2 x1 (List.set (List.set x2 (0 + x3.toNat) (dGRatio.enc c7)) (0 + (w64 (x3 - 1)).toNat) (dGRatio.enc c8)) (w64 (x3 - 1)))
   (k_slices_insertionSortCmpFunc_api_Ratio_1 a0 a1 a2 x2 (w64 (x1 + 1))))
  (k_slices_insertionSortCmpFunc_api_Ratio_1 a0 a1 a2 x2 (w64 (x1 + 1)))) = some y) : k_slices_insertionSortCmpFunc_api_Ratio_2 a0 a1 a2 x1 x2 x3 = some y :=
  pt_of zT [] (by kernel_rfl) h

theorem e_slices_insertionSortCmpFunc_api_Ratio (a0 : List GRatio) (a1 : Int) (a2 : Int) {y : AV × Mem} (h : (
  k_slices_insertionSortCmpFunc_api_Ratio_1 a0 a1 a2 (List.map dGRatio.enc a0) (w64 (a1 + 1))) = some y) : cw f_slices_insertionSortCmpFunc_api_Ratio [.row 1000 2 0 (List.length (List.map dGRatio.enc a0)), I a1, I a2, .fn f_ratio_Compare []] [(1000, ⟨2, ty_api_Ratio, List.map dGRatio.enc a0, false⟩)] = some y :=
  callw_tree R_slices_insertionSortCmpFunc_api_Ratio zT [] (by kernel_rfl) (by kernel_rfl) (by kernel_rfl) (by kernel_rfl) (by kernel_rfl) h

noncomputable def k_slices_heapSortCmpFunc_api_Ratio_1 (a0 : List GRatio) (a1 : Int) (a2 : Int) (x0 : List (List AV)) (x1 : Int) : Option (AV × Mem) := pt R_slices_heapSortCmpFunc_api_Ratio 1 ⟨[(0, .row 1000 2 0 ((List.map dGRatio.enc a0).length)), (3, .fn f_ratio_Compare []), (8, I a1), (9, I 0), (10, I (w64 (a2 - a1))), (11, I x1)], [(1000, ⟨2, ty_api_Ratio, x0, false⟩)]⟩

noncomputable def k_slices_heapSortCmpFunc_api_Ratio_2 (a0 : List GRatio) (a1 : Int) (x3 : List (List AV)) (x4 : Int) : Option (AV × Mem) := pt R_slices_heapSortCmpFunc_api_Ratio 2 ⟨[(0, .row 1000 2 0 ((List.map dGRatio.enc a0).length)), (3, .fn f_ratio_Compare []), (8, I a1), (9, I 0), (12, I x4)], [(1000, ⟨2, ty_api_Ratio, x3, false⟩)]⟩

theorem t_slices_heapSortCmpFunc_api_Ratio_1 (a0 : List GRatio) (a1 : Int) (a2 : Int) (x0 : List (List AV)) (x1 : Int) {y : AV × Mem} (h : (
  brn (decide (0 ≤ x1)) (callD r_slices_siftDownCmpFunc_api_Ratio (cw f_slices_siftDownCmpFunc_api_Ratio [.row 1000 2 0 ((List.map dGRatio.enc a0).length), I x1, I (w64 (a2 - a1)), I a1, .fn f_ratio_Compare []] [(1000, ⟨2, ty_api_Ratio, x0, false⟩)]) fun (r2 : (List GRatio)) =>
   k_slices_heapSortCmpFunc_api_Ratio_1 a0 a1 a2 (List.map dGRatio.enc r2) (w64 (x1 - 1)))
  (k_slices_heapSortCmpFunc_api_Ratio_2 a0 a1 x0 (w64 (w64 (a2 - a1) - 1)))) = some y) : k_slices_heapSortCmpFunc_api_Ratio_1 a0 a1 a2 x0 x1 = some y :=
  pt_of zT [] (by kernel_rfl) h

theorem t_slices_heapSortCmpFunc_api_Ratio_2 (a0 : List GRatio) (a1 : Int) (x3 : List (List AV)) (x4 : Int) {y : AV × Mem} (h : (
  brn (decide (0 ≤ x4)) (chk ((0 : Int) ≤ (w64 (a1 + x4))) <|
   chk ((w64 (a1 + x4) : Int) < ((↑(List.map dGRatio.enc a0).length : Int))) <|
   elemD dGRatio x3 (0 + (w64 (a1 + x4)).toNat) fun (c5 : GRatio) =>
   chk ((0 : Int) ≤ a1) <|
   chk ((a1 : Int) < ((↑(List.map dGRatio.enc a0).length : Int))) <|
   elemD dGRatio x3 (0 + a1.toNat) fun (c6 : GRatio) =>
   chk ((0 : Int) ≤ a1) <|
   chk ((a1 : Int) < ((↑(List.map dGRatio.enc a0).length : Int))) <|
   elemD dGRatio x3 (0 + a1.toNat) fun (c7 : GRatio) =>
   chk ((0 : Int) ≤ (w64 (a1 + x4))) <|
   chk ((w64 (a1 + x4) : Int) < ((↑(List.map dGRatio.enc a0).length : Int))) <|
   elemD dGRatio (List.set x3 (0 + a1.toNat) (dGRatio.enc c5)) (0 + (w64 (a1 + x4)).toNat) fun (c8 : GRatio) =>
   callD r_slices_siftDownCmpFunc_api_Ratio (cw f_slices_siftDownCmpFunc_api_Ratio [.row 1000 2 0 ((List.map dGRatio.enc a0).length), I 0, I x4, I a1, .fn f_ratio_Compare []] [(1000, ⟨2, ty_api_Ratio, List.set (List.set x3 (0 + a1.toNat) (dGRatio.enc c5)) (0 + (w64 (a1 + x4)).toNat) (dGRatio.enc c6), false⟩)]) fun (r9 : (List GRatio)) =>
   k_slices_heapSortCmpFunc_api_Ratio_2 a0 a1 (List.map dGRatio.enc r9) (w64 (x4 - 1)))
  (some (.tup [], [(1000, ⟨2, ty_api_Ratio, x3, false⟩)]))) = some y) : k_slices_heapSortCmpFunc_api_Ratio_2 a0 a1 x3 x4 = some y :=
  pt_of zT [] (by kernel_rfl) h

theorem e_slices_heapSortCmpFunc_api_Ratio (a0 : List GRatio) (a1 : Int) (a2 : Int) {y : AV × Mem} (h : (
  chk ((2 : Int) ≠ 0) <|
  k_slices_heapSortCmpFunc_api_Ratio_1 a0 a1 a2 (List.map dGRatio.enc a0) (w64 ((w64 (w64 (a2 - a1) - 1)).tdiv 2))) = some y) : cw f_slices_heapSortCmpFunc_api_Ratio [.row 1000 2 0 (List.length (List.map dGRatio.enc a0)), I a1, I a2, .fn f_ratio_Compare []] [(1000, ⟨2, ty_api_Ratio, List.map dGRatio.enc a0, false⟩)] = some y :=
  callw_tree R_slices_heapSortCmpFunc_api_Ratio zT [] (by kernel_rfl) (by kernel_rfl) (by kernel_rfl) (by kernel_rfl) (by kernel_rfl) h

end Go.Proofs.Ytiienbfdcgipnaa
