/- What the functions compute, between two cut points: printed by a program, checked by the kernel. -/
import Derived.Test.YtdhibifcofaioaaGreatAnn
namespace Go.Proofs.YtdhibifcofaioaaGreat
open Go.Ab
set_option maxRecDepth 100000
set_option linter.unusedVariables false

theorem e_ref24_Eligible (a0 : List GMarker) (a1 : Int) (a2 : GScript) {y : AV × Mem} (h : (
  callD r_ref24_Find (cw f_ref24_Find [AV.sl 5 (List.map nGMarker a0), I a1] []) fun (r0 : GMarker × Bool) =>
  brn r0.snd (callD r_ref24_Fits (cw f_ref24_Fits [AV.agg (nGMarker r0.fst), AV.agg (nGScript a2)] []) fun (r1 : Bool) =>
   some (B r1, []))
  (some (B false, []))) = some y) : cw f_ref24_Eligible [AV.sl 5 (List.map nGMarker a0), I a1, AV.agg (nGScript a2)] [] = some y :=
  callw_tree R_ref24_Eligible zT [] rfl (by kernel_rfl) (by kernel_rfl) (by kernel_rfl) (by kernel_rfl) (by kernel_rfl) h

theorem e_ref23_Permitted (a0 : GPaper) (a1 : GScheme) (a2 : Int) (a3 : Int) {y : AV × Mem} (h : (
  callD r_ref23_Valid (cw f_ref23_Valid [AV.agg (nGPaper a0), AV.agg (nGScheme a1)] []) fun (r0 : Bool) =>
  brn (!r0) (some (B false, []))
  (brn (decide (a2 < 0)) (some (B false, []))
   (brn (decide ((↑(List.map nGPart a0.Parts).length : Int) ≤ a2)) (some (B false, []))
    (chk ((0 : Int) ≤ a2) <|
     elemD dGPart (List.map nGPart a0.Parts) a2.toNat fun (c1 : GPart) =>
     chk ((0 : Int) ≤ a2) <|
     elemD dGPart (List.map nGPart a0.Parts) a2.toNat fun (c2 : GPart) =>
     brn (c2.Kind == 2) (brn (a3 == -1) (some (B true, []))
      (brn (a3 == 0) (some (B true, []))
       (some (B (a3 == c1.Max), []))))
     (brn (decide (-1 ≤ a3)) (some (B (decide (a3 ≤ c1.Max)), []))
      (some (B false, []))))))) = some y) : cw f_ref23_Permitted [AV.agg (nGPaper a0), AV.agg (nGScheme a1), I a2, I a3] [] = some y :=
  callw_tree R_ref23_Permitted zT [] rfl (by kernel_rfl) (by kernel_rfl) (by kernel_rfl) (by kernel_rfl) (by kernel_rfl) h

noncomputable def k_ref28_SamePages_1 (a0 : List Int) (a1 : List Int) (x0 : Int) : Option (AV × Mem) := pt R_ref28_SamePages 1 ⟨[(0, AV.sl 1 (List.map nI_i64 a0)), (1, AV.sl 1 (List.map nI_i64 a1)), (5, I x0)], []⟩

theorem t_ref28_SamePages_1 (a0 : List Int) (a1 : List Int) (x0 : Int) {y : AV × Mem} (h : (
  brn (decide (x0 < (↑(List.map nI_i64 a0).length : Int))) (chk ((0 : Int) ≤ x0) <|
   elemD dI_i64 (List.map nI_i64 a0) x0.toNat fun (c1 : Int) =>
   chk ((0 : Int) ≤ x0) <|
   elemD dI_i64 (List.map nI_i64 a1) x0.toNat fun (c2 : Int) =>
   brn (c1 != c2) (some (B false, []))
   (k_ref28_SamePages_1 a0 a1 (w64 (x0 + 1))))
  (some (B true, []))) = some y) : k_ref28_SamePages_1 a0 a1 x0 = some y :=
  pt_of zT [] (by kernel_rfl) h

theorem e_ref28_SamePages (a0 : List Int) (a1 : List Int) {y : AV × Mem} (h : (
  brn ((↑(List.map nI_i64 a0).length : Int) != (↑(List.map nI_i64 a1).length : Int)) (some (B false, []))
  (k_ref28_SamePages_1 a0 a1 0)) = some y) : cw f_ref28_SamePages [AV.sl 1 (List.map nI_i64 a0), AV.sl 1 (List.map nI_i64 a1)] [] = some y :=
  callw_tree R_ref28_SamePages zT [] rfl (by kernel_rfl) (by kernel_rfl) (by kernel_rfl) (by kernel_rfl) (by kernel_rfl) h

theorem e_ref29_less (a0 : GGiven) (a1 : GGiven) {y : AV × Mem} (h : (
  brn (a0.Script != a1.Script) (some (B (decide (a0.Script < a1.Script)), []))
  (brn (a0.Part != a1.Part) (some (B (decide (a0.Part < a1.Part)), []))
   (some (B (decide (a0.Marker < a1.Marker)), [])))) = some y) : cw f_ref29_less [AV.agg (nGGiven a0), AV.agg (nGGiven a1)] [] = some y :=
  callw_tree R_ref29_less zT [] rfl (by kernel_rfl) (by kernel_rfl) (by kernel_rfl) (by kernel_rfl) (by kernel_rfl) h

theorem e_stamp_Compare (a0 : GStamp) (a1 : GStamp) {y : AV × Mem} (h : (
  callD r_cmp_Compare_int (cw f_cmp_Compare_int [I a0.Time, I a1.Time] []) fun (r0 : Int) =>
  callD r_cmp_Compare_int (cw f_cmp_Compare_int [I a0.Source, I a1.Source] []) fun (r1 : Int) =>
  callD r_cmp_Compare_int (cw f_cmp_Compare_int [I a0.Seq, I a1.Seq] []) fun (r2 : Int) =>
  callD r_cmp_Or_int (cw f_cmp_Or_int [AV.sl 1 (List.map nI_i64 ([r0, r1, r2]))] []) fun (r3 : Int) =>
  some (I r3, [])) = some y) : cw f_stamp_Compare [AV.agg (nGStamp a0), AV.agg (nGStamp a1)] [] = some y :=
  callw_tree R_stamp_Compare zT [] rfl (by kernel_rfl) (by kernel_rfl) (by kernel_rfl) (by kernel_rfl) (by kernel_rfl) h

theorem e_bits_Div64 (a1 : Int) (a2 : Int) {y : AV × Mem} (h : (
  brn (a2 == 0) (none)
  (brn (decide (a2 ≤ 0)) (none)
   (chk ((a2 : Int) ≠ 0) <|
    chk ((a2 : Int) ≠ 0) <|
    some (AV.tup [AV.v (.int .u64 (wu64 (a1.tdiv a2))), AV.v (.int .u64 (a1.tmod a2))], [])))) = some y) : cw f_bits_Div64 [AV.v (.int .u64 0), AV.v (.int .u64 a1), AV.v (.int .u64 a2)] [] = some y :=
  callw_tree R_bits_Div64 zT [] rfl (by kernel_rfl) (by kernel_rfl) (by kernel_rfl) (by kernel_rfl) (by kernel_rfl) h

theorem e_marking_Check (a0 : GSetup) {y : AV × Mem} (h : (
  callD r_marker_Check (cw f_marker_Check [AV.sl 5 (List.map nGMarker a0.Markers)] []) fun (r0 : Int) =>
  brn (r0 != 0) (some (I 1, []))
  (callD r_marker_CheckScripts (cw f_marker_CheckScripts [AV.sl 7 (List.map nGScript a0.Scripts)] []) fun (r1 : Int) =>
   brn (r1 != 0) (some (I 1, []))
   (callD r_marking_validPapers (cw f_marking_validPapers [AV.agg (nGSetup a0)] []) fun (r2 : Bool) =>
    brn (!r2) (some (I 1, []))
    (callD r_marking_validScripts (cw f_marking_validScripts [AV.agg (nGSetup a0)] []) fun (r3 : Bool) =>
     brn (!r3) (some (I 1, []))
     (callD r_marking_validSeeds (cw f_marking_validSeeds [AV.agg (nGSetup a0)] []) fun (r4 : Bool) =>
      brn (!r4) (some (I 1, []))
      (callD r_monitor_Check (cw f_monitor_Check [AV.agg (nGMonitorRule a0.Monitor)] []) fun (r5 : Int) =>
       brn (r5 != 0) (some (I 1, []))
       (some (I 0, [])))))))) = some y) : cw f_marking_Check [AV.agg (nGSetup a0)] [] = some y :=
  callw_tree R_marking_Check zT [] rfl (by kernel_rfl) (by kernel_rfl) (by kernel_rfl) (by kernel_rfl) (by kernel_rfl) h

noncomputable def k_scheme_Closed_1 (a0 : GPaper) (a1 : GScheme) (a2 : List Int) (x1 : Int) : Option (AV × Mem) := pt R_scheme_Closed 1 ⟨[(2, AV.sl 1 (List.map nI_i64 a2)), (3, AV.loc 3 3 0 0), (4, AV.loc 4 2 0 0), (25, AV.sl 6 (List.map nGPart a0.Parts)), (26, I ((↑(List.map nGPart a0.Parts).length : Int))), (27, I x1)], [(3, ⟨3, ty_api_Paper, [nGPaper a0], true⟩), (4, ⟨2, ty_api_Scheme, [nGScheme a1], true⟩)]⟩

noncomputable def k_scheme_Closed_2 (a0 : GPaper) (a1 : GScheme) (a2 : List Int) (x4 : List (List AV)) (x5 : Int) : Option (AV × Mem) := pt R_scheme_Closed 2 ⟨[(2, AV.sl 1 (List.map nI_i64 a2)), (4, AV.loc 4 2 0 0), (11, AV.row 61 1 0 ((List.replicate (↑(List.map nGPart a0.Parts).length : Int).toNat (AV.v (Go.Value.int IntKind.i64 0) :: List.map AV.v [])).length)), (63, AV.sl 6 (List.map nGPart a0.Parts)), (64, I ((↑(List.map nGPart a0.Parts).length : Int))), (65, I x5)], [(4, ⟨2, ty_api_Scheme, [nGScheme a1], true⟩), (61, ⟨1, ty_i64_2, x4, false⟩)]⟩

theorem t_scheme_Closed_1 (a0 : GPaper) (a1 : GScheme) (a2 : List Int) (x1 : Int) {y : AV × Mem} (h : (
  brn (decide (x1 < (↑(List.map nGPart a0.Parts).length : Int))) (chk ((0 : Int) ≤ x1) <|
   elemD dGPart (List.map nGPart a0.Parts) x1.toNat fun (c2 : GPart) =>
   chk ((0 : Int) ≤ x1) <|
   elemD dI_i64 (List.map nI_i64 a2) x1.toNat fun (c3 : Int) =>
   brn (c2.Kind == 2) (brn (c3 != -1) (brn (c3 != -2) (brn (decide (c3 < 0)) (some (AV.tup [AV.sl 1 (List.map nI_i64 []), I 2], []))
      (brn (decide (c2.Options ≤ c3)) (some (AV.tup [AV.sl 1 (List.map nI_i64 []), I 2], []))
       (k_scheme_Closed_1 a0 a1 a2 (w64 (x1 + 1)))))
     (k_scheme_Closed_1 a0 a1 a2 (w64 (x1 + 1))))
    (k_scheme_Closed_1 a0 a1 a2 (w64 (x1 + 1))))
   (k_scheme_Closed_1 a0 a1 a2 (w64 (x1 + 1))))
  (chk (((↑(List.map nGPart a0.Parts).length : Int) : Int) = ((↑(List.map nGPart a0.Parts).length : Int))) <|
   chk ((0 : Int) ≤ ((↑(List.map nGPart a0.Parts).length : Int))) <|
   chk ((↑(List.map nGPart a0.Parts).length : Int).toNat * (8 + 1) ≤ 1099511627776) <|
   k_scheme_Closed_2 a0 a1 a2 (List.replicate ((↑(List.map nGPart a0.Parts).length : Int).toNat) (nI_i64 0)) 0)) = some y) : k_scheme_Closed_1 a0 a1 a2 x1 = some y :=
  pt_of zT [] (by kernel_rfl) h

theorem t_scheme_Closed_2 (a0 : GPaper) (a1 : GScheme) (a2 : List Int) (x4 : List (List AV)) (x5 : Int) {y : AV × Mem} (h : (
  brn (decide (x5 < (↑(List.map nGPart a0.Parts).length : Int))) (chk ((0 : Int) ≤ x5) <|
   elemD dGPart (List.map nGPart a0.Parts) x5.toNat fun (c6 : GPart) =>
   brn (c6.Kind == 1) (chk ((0 : Int) ≤ x5) <|
    chk ((x5 : Int) < ((↑(List.replicate (↑(List.map nGPart a0.Parts).length : Int).toNat (AV.v (Go.Value.int IntKind.i64 0) :: List.map AV.v [])).length : Int))) <|
    elemD dI_i64 x4 (0 + x5.toNat) fun (c7 : Int) =>
    k_scheme_Closed_2 a0 a1 a2 (List.set x4 (0 + x5.toNat) (nI_i64 (-2))) (w64 (x5 + 1)))
   (chk ((0 : Int) ≤ x5) <|
    elemD dL_I_i64 (List.map nL_I_i64 a1.Keys) x5.toNat fun (c8 : List Int) =>
    chk ((0 : Int) ≤ x5) <|
    elemD dI_i64 (List.map nI_i64 a2) x5.toNat fun (c9 : Int) =>
    callD r_scheme_accepts (cw f_scheme_accepts [AV.agg (nGPart c6), AV.sl 1 (List.map nI_i64 c8), I c9] []) fun (r10 : Bool) =>
    brn r10 (chk ((0 : Int) ≤ x5) <|
     chk ((x5 : Int) < ((↑(List.replicate (↑(List.map nGPart a0.Parts).length : Int).toNat (AV.v (Go.Value.int IntKind.i64 0) :: List.map AV.v [])).length : Int))) <|
     elemD dI_i64 x4 (0 + x5.toNat) fun (c11 : Int) =>
     k_scheme_Closed_2 a0 a1 a2 (List.set x4 (0 + x5.toNat) (nI_i64 c6.Max)) (w64 (x5 + 1)))
    (chk ((0 : Int) ≤ x5) <|
     elemD dI_i64 (List.map nI_i64 a2) x5.toNat fun (c12 : Int) =>
     brn (c12 == -1) (chk ((0 : Int) ≤ x5) <|
      chk ((x5 : Int) < ((↑(List.replicate (↑(List.map nGPart a0.Parts).length : Int).toNat (AV.v (Go.Value.int IntKind.i64 0) :: List.map AV.v [])).length : Int))) <|
      elemD dI_i64 x4 (0 + x5.toNat) fun (c13 : Int) =>
      k_scheme_Closed_2 a0 a1 a2 (List.set x4 (0 + x5.toNat) (nI_i64 (-1))) (w64 (x5 + 1)))
     (k_scheme_Closed_2 a0 a1 a2 x4 (w64 (x5 + 1))))))
  (chk (0 + (List.replicate (↑(List.map nGPart a0.Parts).length : Int).toNat (AV.v (Go.Value.int IntKind.i64 0) :: List.map AV.v [])).length ≤ x4.length) <|
   some (AV.tup [AV.sl 1 (List.take ((List.replicate (↑(List.map nGPart a0.Parts).length : Int).toNat (AV.v (Go.Value.int IntKind.i64 0) :: List.map AV.v [])).length) x4), I 0], []))) = some y) : k_scheme_Closed_2 a0 a1 a2 x4 x5 = some y :=
  pt_of zT [] (by kernel_rfl) h

theorem e_scheme_Closed (a0 : GPaper) (a1 : GScheme) (a2 : List Int) {y : AV × Mem} (h : (
  callD r_scheme_Valid (cw f_scheme_Valid [AV.agg (nGPaper a0), AV.agg (nGScheme a1)] []) fun (r0 : Bool) =>
  brn (!r0) (some (AV.tup [AV.sl 1 (List.map nI_i64 []), I 1], []))
  (brn ((↑(List.map nI_i64 a2).length : Int) != (↑(List.map nGPart a0.Parts).length : Int)) (some (AV.tup [AV.sl 1 (List.map nI_i64 []), I 22], []))
   (k_scheme_Closed_1 a0 a1 a2 0))) = some y) : cw f_scheme_Closed [AV.agg (nGPaper a0), AV.agg (nGScheme a1), AV.sl 1 (List.map nI_i64 a2)] [] = some y :=
  callw_tree R_scheme_Closed zT [] rfl (by kernel_rfl) (by kernel_rfl) (by kernel_rfl) (by kernel_rfl) (by kernel_rfl) h

noncomputable def k_arbitration_definitive_1 (a0 : GSetup) (a1 : Int) (x0 : Int) : Option (AV × Mem) := pt R_arbitration_definitive 1 ⟨[(1, I a1), (9, AV.sl 2 (List.map nGSeed a0.Seeds)), (10, I ((↑(List.map nGSeed a0.Seeds).length : Int))), (11, I x0)], []⟩

theorem t_arbitration_definitive_1 (a0 : GSetup) (a1 : Int) (x0 : Int) {y : AV × Mem} (h : (
  brn (decide (x0 < (↑(List.map nGSeed a0.Seeds).length : Int))) (chk ((0 : Int) ≤ x0) <|
   elemD dGSeed (List.map nGSeed a0.Seeds) x0.toNat fun (c1 : GSeed) =>
   brn (c1.Script == a1) (some (AV.tup [AV.sl 1 (List.map nI_i64 c1.Marks), B true], []))
   (k_arbitration_definitive_1 a0 a1 (w64 (x0 + 1))))
  (some (AV.tup [AV.sl 1 (List.map nI_i64 []), B false], []))) = some y) : k_arbitration_definitive_1 a0 a1 x0 = some y :=
  pt_of zT [] (by kernel_rfl) h

theorem e_arbitration_definitive (a0 : GSetup) (a1 : Int) {y : AV × Mem} (h : (
  k_arbitration_definitive_1 a0 a1 0) = some y) : cw f_arbitration_definitive [AV.agg (nGSetup a0), I a1] [] = some y :=
  callw_tree R_arbitration_definitive zT [] rfl (by kernel_rfl) (by kernel_rfl) (by kernel_rfl) (by kernel_rfl) (by kernel_rfl) h

noncomputable def k_marking_Counting_1 (a0 : GMarking) (a1 : Int) (a2 : Int) (x0 : List (List AV)) (x1 : Int) : Option (AV × Mem) := pt R_marking_Counting 1 ⟨[(1, I a1), (2, I a2), (7, AV.row 7 8 0 (List.length x0)), (11, AV.sl 8 (List.map nGGiven a0.Given)), (12, I ((↑(List.map nGGiven a0.Given).length : Int))), (13, I x1)], [(7, ⟨8, ty_api_Given, x0, false⟩)]⟩

theorem t_marking_Counting_1 (a0 : GMarking) (a1 : Int) (a2 : Int) (x0 : List (List AV)) (x1 : Int) {y : AV × Mem} (h : (
  brn (decide (x1 < (↑(List.map nGGiven a0.Given).length : Int))) (chk ((0 : Int) ≤ x1) <|
   elemD dGGiven (List.map nGGiven a0.Given) x1.toNat fun (c2 : GGiven) =>
   brn (c2.Script == a1) (brn (c2.Part == a2) (chk (x0.length = x0.length) <|
     chk ((x0.length + 1) * (64 + 1) ≤ 1099511627776) <|
     chk ((x0 ++ [[AV.v (Go.Value.int IntKind.i64 c2.Script), AV.v (Go.Value.int IntKind.i64 c2.Part), AV.v (Go.Value.int IntKind.i64 c2.Marker), AV.v (Go.Value.int IntKind.i64 c2.Level), AV.v (Go.Value.int IntKind.i64 c2.Value), AV.v (Go.Value.int IntKind.i64 c2.Stamp.Time), AV.v (Go.Value.int IntKind.i64 c2.Stamp.Source), AV.v (Go.Value.int IntKind.i64 c2.Stamp.Seq)]]).length = (x0 ++ [[AV.v (Go.Value.int IntKind.i64 c2.Script), AV.v (Go.Value.int IntKind.i64 c2.Part), AV.v (Go.Value.int IntKind.i64 c2.Marker), AV.v (Go.Value.int IntKind.i64 c2.Level), AV.v (Go.Value.int IntKind.i64 c2.Value), AV.v (Go.Value.int IntKind.i64 c2.Stamp.Time), AV.v (Go.Value.int IntKind.i64 c2.Stamp.Source), AV.v (Go.Value.int IntKind.i64 c2.Stamp.Seq)]]).length) <|
     k_marking_Counting_1 a0 a1 a2 (x0 ++ ([nGGiven c2])) (w64 (x1 + 1)))
    (k_marking_Counting_1 a0 a1 a2 x0 (w64 (x1 + 1))))
   (k_marking_Counting_1 a0 a1 a2 x0 (w64 (x1 + 1))))
  (chk (x0.length = x0.length) <|
   some (AV.new 8 ty_api_Given x0, []))) = some y) : k_marking_Counting_1 a0 a1 a2 x0 x1 = some y :=
  pt_of zT [] (by kernel_rfl) h

theorem e_marking_Counting (a0 : GMarking) (a1 : Int) (a2 : Int) {y : AV × Mem} (h : (
  k_marking_Counting_1 a0 a1 a2 [] 0) = some y) : cw f_marking_Counting [AV.agg (nGMarking a0), I a1, I a2] [] = some y :=
  callw_tree R_marking_Counting zT [] rfl (by kernel_rfl) (by kernel_rfl) (by kernel_rfl) (by kernel_rfl) (by kernel_rfl) h

theorem e_ref23_Accepts (a0 : GPaper) (a1 : GScheme) (a2 : Int) (a3 : Int) {y : AV × Mem} (h : (
  callD r_ref23_Valid (cw f_ref23_Valid [AV.agg (nGPaper a0), AV.agg (nGScheme a1)] []) fun (r0 : Bool) =>
  brn (!r0) (some (B false, []))
  (brn (decide (a2 < 0)) (some (B false, []))
   (brn (decide ((↑(List.map nGPart a0.Parts).length : Int) ≤ a2)) (some (B false, []))
    (chk ((0 : Int) ≤ a2) <|
     elemD dGPart (List.map nGPart a0.Parts) a2.toNat fun (c1 : GPart) =>
     brn (c1.Kind != 2) (some (B false, []))
     (chk ((0 : Int) ≤ a2) <|
      elemD dL_I_i64 (List.map nL_I_i64 a1.Keys) a2.toNat fun (c2 : List Int) =>
      brn ((↑(List.map nI_i64 c2).length : Int) == 0) (chk ((0 : Int) ≤ a2) <|
       elemD dGPart (List.map nGPart a0.Parts) a2.toNat fun (c3 : GPart) =>
       some (B (a3 == c3.Key), []))
      (chk ((0 : Int) ≤ a2) <|
       elemD dL_I_i64 (List.map nL_I_i64 a1.Keys) a2.toNat fun (c4 : List Int) =>
       callD r_ref06_Has (cw f_ref06_Has [AV.sl 1 (List.map nI_i64 c4), I a3] []) fun (r5 : Bool) =>
       some (B r5, []))))))) = some y) : cw f_ref23_Accepts [AV.agg (nGPaper a0), AV.agg (nGScheme a1), I a2, I a3] [] = some y :=
  callw_tree R_ref23_Accepts zT [] rfl (by kernel_rfl) (by kernel_rfl) (by kernel_rfl) (by kernel_rfl) (by kernel_rfl) h

noncomputable def k_marking_scriptOf_1 (a0 : GSetup) (a1 : Int) (x0 : Int) : Option (AV × Mem) := pt R_marking_scriptOf 1 ⟨[(1, I a1), (4, AV.loc 4 7 0 0), (9, AV.sl 7 (List.map nGScript a0.Scripts)), (10, I ((↑(List.map nGScript a0.Scripts).length : Int))), (11, I x0)], [(4, ⟨7, ty_api_Script, [[I 0, I 0, I 0, I 0, I 0, AV.v (.slice none 0 0), AV.v (.slice none 0 0)]], true⟩)]⟩

theorem t_marking_scriptOf_1 (a0 : GSetup) (a1 : Int) (x0 : Int) {y : AV × Mem} (h : (
  brn (decide (x0 < (↑(List.map nGScript a0.Scripts).length : Int))) (chk ((0 : Int) ≤ x0) <|
   elemD dGScript (List.map nGScript a0.Scripts) x0.toNat fun (c1 : GScript) =>
   brn (c1.Number == a1) (some (AV.tup [AV.agg (nGScript c1), B true], []))
   (k_marking_scriptOf_1 a0 a1 (w64 (x0 + 1))))
  (some (AV.tup [AV.agg (nGScript (⟨0, 0, 0, 0, 0, [], []⟩)), B false], []))) = some y) : k_marking_scriptOf_1 a0 a1 x0 = some y :=
  pt_of zT [] (by kernel_rfl) h

theorem e_marking_scriptOf (a0 : GSetup) (a1 : Int) {y : AV × Mem} (h : (
  k_marking_scriptOf_1 a0 a1 0) = some y) : cw f_marking_scriptOf [AV.agg (nGSetup a0), I a1] [] = some y :=
  callw_tree R_marking_scriptOf zT [] rfl (by kernel_rfl) (by kernel_rfl) (by kernel_rfl) (by kernel_rfl) (by kernel_rfl) h

noncomputable def k_marking_paperOf_1 (a0 : GSetup) (a1 : GScript) (x0 : Int) : Option (AV × Mem) := pt R_marking_paperOf 1 ⟨[(3, AV.loc 3 7 0 0), (9, AV.sl 3 (List.map nGPaper a0.Papers)), (10, I ((↑(List.map nGPaper a0.Papers).length : Int))), (11, I x0)], [(3, ⟨7, ty_api_Script, [nGScript a1], true⟩)]⟩

theorem t_marking_paperOf_1 (a0 : GSetup) (a1 : GScript) (x0 : Int) {y : AV × Mem} (h : (
  brn (decide (x0 < (↑(List.map nGPaper a0.Papers).length : Int))) (chk ((0 : Int) ≤ x0) <|
   elemD dGPaper (List.map nGPaper a0.Papers) x0.toNat fun (c1 : GPaper) =>
   brn (c1.Code == a1.Paper) (brn (c1.Variant == a1.Variant) (some (AV.tup [I x0, B true], []))
    (k_marking_paperOf_1 a0 a1 (w64 (x0 + 1))))
   (k_marking_paperOf_1 a0 a1 (w64 (x0 + 1))))
  (some (AV.tup [I 0, B false], []))) = some y) : k_marking_paperOf_1 a0 a1 x0 = some y :=
  pt_of zT [] (by kernel_rfl) h

theorem e_marking_paperOf (a0 : GSetup) (a1 : GScript) {y : AV × Mem} (h : (
  k_marking_paperOf_1 a0 a1 0) = some y) : cw f_marking_paperOf [AV.agg (nGSetup a0), AV.agg (nGScript a1)] [] = some y :=
  callw_tree R_marking_paperOf zT [] rfl (by kernel_rfl) (by kernel_rfl) (by kernel_rfl) (by kernel_rfl) (by kernel_rfl) h

noncomputable def k_scheme_Valid_1 (a0 : GPaper) (a1 : GScheme) (x1 : Int) : Option (AV × Mem) := pt R_scheme_Valid 1 ⟨[(3, AV.loc 3 2 0 0), (29, AV.sl 6 (List.map nGPart a0.Parts)), (30, I ((↑(List.map nGPart a0.Parts).length : Int))), (31, I x1)], [(3, ⟨2, ty_api_Scheme, [nGScheme a1], true⟩)]⟩

theorem t_scheme_Valid_1 (a0 : GPaper) (a1 : GScheme) (x1 : Int) {y : AV × Mem} (h : (
  brn (decide (x1 < (↑(List.map nGPart a0.Parts).length : Int))) (chk ((0 : Int) ≤ x1) <|
   elemD dGPart (List.map nGPart a0.Parts) x1.toNat fun (c2 : GPart) =>
   chk ((0 : Int) ≤ x1) <|
   elemD dL_I_i64 (List.map nL_I_i64 a1.Keys) x1.toNat fun (c3 : List Int) =>
   callD r_scheme_validKeys (cw f_scheme_validKeys [AV.agg (nGPart c2), AV.sl 1 (List.map nI_i64 c3)] []) fun (r4 : Bool) =>
   brn (!r4) (some (B false, []))
   (chk ((0 : Int) ≤ x1) <|
    elemD dI_i64 (List.map nI_i64 a1.Withdrawn) x1.toNat fun (c5 : Int) =>
    callD r_scheme_isKind (cw f_scheme_isKind [I c5] []) fun (r6 : Bool) =>
    brn (!r6) (some (B false, []))
    (k_scheme_Valid_1 a0 a1 (w64 (x1 + 1)))))
  (some (B true, []))) = some y) : k_scheme_Valid_1 a0 a1 x1 = some y :=
  pt_of zT [] (by kernel_rfl) h

theorem e_scheme_Valid (a0 : GPaper) (a1 : GScheme) {y : AV × Mem} (h : (
  callD r_item_ValidPaper (cw f_item_ValidPaper [AV.agg (nGPaper a0)] []) fun (r0 : Bool) =>
  brn (!r0) (some (B false, []))
  (brn ((↑(List.map nL_I_i64 a1.Keys).length : Int) != (↑(List.map nGPart a0.Parts).length : Int)) (some (B false, []))
   (brn ((↑(List.map nI_i64 a1.Withdrawn).length : Int) != (↑(List.map nGPart a0.Parts).length : Int)) (some (B false, []))
    (k_scheme_Valid_1 a0 a1 0)))) = some y) : cw f_scheme_Valid [AV.agg (nGPaper a0), AV.agg (nGScheme a1)] [] = some y :=
  callw_tree R_scheme_Valid zT [] rfl (by kernel_rfl) (by kernel_rfl) (by kernel_rfl) (by kernel_rfl) (by kernel_rfl) h

noncomputable def k_scheme_Marked_1 (a0 : GPaper) (a1 : GScheme) (a2 : List Int) (x1 : Int) : Option (AV × Mem) := pt R_scheme_Marked 1 ⟨[(2, AV.sl 1 (List.map nI_i64 a2)), (4, AV.loc 4 2 0 0), (22, AV.sl 6 (List.map nGPart a0.Parts)), (23, I ((↑(List.map nGPart a0.Parts).length : Int))), (24, I x1)], [(4, ⟨2, ty_api_Scheme, [nGScheme a1], true⟩)]⟩

theorem t_scheme_Marked_1 (a0 : GPaper) (a1 : GScheme) (a2 : List Int) (x1 : Int) {y : AV × Mem} (h : (
  brn (decide (x1 < (↑(List.map nGPart a0.Parts).length : Int))) (chk ((0 : Int) ≤ x1) <|
   elemD dGPart (List.map nGPart a0.Parts) x1.toNat fun (c2 : GPart) =>
   chk ((0 : Int) ≤ x1) <|
   elemD dI_i64 (List.map nI_i64 a1.Withdrawn) x1.toNat fun (c3 : Int) =>
   brn (c3 == 0) (chk ((0 : Int) ≤ x1) <|
    elemD dI_i64 (List.map nI_i64 a2) x1.toNat fun (c4 : Int) =>
    callD r_scheme_permitted (cw f_scheme_permitted [AV.agg (nGPart c2), I c4] []) fun (r5 : Bool) =>
    brn (!r5) (some (B false, []))
    (k_scheme_Marked_1 a0 a1 a2 (w64 (x1 + 1))))
   (k_scheme_Marked_1 a0 a1 a2 (w64 (x1 + 1))))
  (some (B true, []))) = some y) : k_scheme_Marked_1 a0 a1 a2 x1 = some y :=
  pt_of zT [] (by kernel_rfl) h

theorem e_scheme_Marked (a0 : GPaper) (a1 : GScheme) (a2 : List Int) {y : AV × Mem} (h : (
  callD r_scheme_Valid (cw f_scheme_Valid [AV.agg (nGPaper a0), AV.agg (nGScheme a1)] []) fun (r0 : Bool) =>
  brn (!r0) (some (B false, []))
  (brn ((↑(List.map nI_i64 a2).length : Int) != (↑(List.map nGPart a0.Parts).length : Int)) (some (B false, []))
   (k_scheme_Marked_1 a0 a1 a2 0))) = some y) : cw f_scheme_Marked [AV.agg (nGPaper a0), AV.agg (nGScheme a1), AV.sl 1 (List.map nI_i64 a2)] [] = some y :=
  callw_tree R_scheme_Marked zT [] rfl (by kernel_rfl) (by kernel_rfl) (by kernel_rfl) (by kernel_rfl) (by kernel_rfl) h

noncomputable def k_scheme_sum_1 (a0 : GPaper) (a1 : GScheme) (a2 : List Int) (x0 : Int) (x1 : Int) : Option (AV × Mem) := pt R_scheme_sum 1 ⟨[(1, AV.fn f_scheme_Total_1 [AV.fp [AV.sl 1 (List.map nL_I_i64 a1.Keys), AV.sl 1 (List.map nI_i64 a1.Withdrawn)], AV.fp [AV.sl 1 (List.map nI_i64 a2)]]), (5, I x0), (9, AV.sl 6 (List.map nGPart a0.Parts)), (10, I ((↑(List.map nGPart a0.Parts).length : Int))), (11, I x1)], []⟩

theorem t_scheme_sum_1 (a0 : GPaper) (a1 : GScheme) (a2 : List Int) (x0 : Int) (x1 : Int) {y : AV × Mem} (h : (
  brn (decide (x1 < (↑(List.map nGPart a0.Parts).length : Int))) (chk ((0 : Int) ≤ x1) <|
   elemD dGPart (List.map nGPart a0.Parts) x1.toNat fun (c2 : GPart) =>
   callD r_scheme_Total_1 (cw f_scheme_Total_1 [I x1, AV.agg (nGPart c2), AV.fp [AV.sl 1 (List.map nL_I_i64 a1.Keys), AV.sl 1 (List.map nI_i64 a1.Withdrawn)], AV.fp [AV.sl 1 (List.map nI_i64 a2)]] []) fun (r3 : Int) =>
   k_scheme_sum_1 a0 a1 a2 (w64 (x0 + r3)) (w64 (x1 + 1)))
  (some (I x0, []))) = some y) : k_scheme_sum_1 a0 a1 a2 x0 x1 = some y :=
  pt_of zT [] (by kernel_rfl) h

theorem e_scheme_sum (a0 : GPaper) (a1 : GScheme) (a2 : List Int) {y : AV × Mem} (h : (
  k_scheme_sum_1 a0 a1 a2 0 0) = some y) : cw f_scheme_sum [AV.agg (nGPaper a0), AV.fn f_scheme_Total_1 [AV.fp [AV.sl 1 (List.map nL_I_i64 a1.Keys), AV.sl 1 (List.map nI_i64 a1.Withdrawn)], AV.fp [AV.sl 1 (List.map nI_i64 a2)]]] [] = some y :=
  callw_tree R_scheme_sum zT [] rfl (by kernel_rfl) (by kernel_rfl) (by kernel_rfl) (by kernel_rfl) (by kernel_rfl) h

theorem e_scheme_Total_1 (a0 : Int) (a1 : GPart) (a2 : GScheme) (a3 : List Int) {y : AV × Mem} (h : (
  chk ((0 : Int) ≤ a0) <|
  elemD dI_i64 (List.map nI_i64 a2.Withdrawn) a0.toNat fun (c0 : Int) =>
  brn (c0 == 1) (some (I a1.Max, []))
  (brn (c0 == 2) (some (I 0, []))
   (chk ((0 : Int) ≤ a0) <|
    elemD dI_i64 (List.map nI_i64 a3) a0.toNat fun (c1 : Int) =>
    some (I (if 0 > c1 then 0 else c1), [])))) = some y) : cw f_scheme_Total_1 [I a0, AV.agg (nGPart a1), AV.fp [AV.sl 1 (List.map nL_I_i64 a2.Keys), AV.sl 1 (List.map nI_i64 a2.Withdrawn)], AV.fp [AV.sl 1 (List.map nI_i64 a3)]] [] = some y :=
  callw_tree R_scheme_Total_1 zT [] rfl (by kernel_rfl) (by kernel_rfl) (by kernel_rfl) (by kernel_rfl) (by kernel_rfl) h

noncomputable def k_ref23_Marked_1 (a0 : GPaper) (a1 : GScheme) (a2 : List Int) (x1 : Int) : Option (AV × Mem) := pt R_ref23_Marked 1 ⟨[(2, AV.sl 1 (List.map nI_i64 a2)), (3, AV.loc 3 3 0 0), (4, AV.loc 4 2 0 0), (7, I x1)], [(3, ⟨3, ty_api_Paper, [nGPaper a0], true⟩), (4, ⟨2, ty_api_Scheme, [nGScheme a1], true⟩)]⟩

theorem t_ref23_Marked_1 (a0 : GPaper) (a1 : GScheme) (a2 : List Int) (x1 : Int) {y : AV × Mem} (h : (
  brn (decide (x1 < (↑(List.map nI_i64 a2).length : Int))) (chk ((0 : Int) ≤ x1) <|
   elemD dI_i64 (List.map nI_i64 a1.Withdrawn) x1.toNat fun (c2 : Int) =>
   brn (c2 == 0) (chk ((0 : Int) ≤ x1) <|
    elemD dI_i64 (List.map nI_i64 a2) x1.toNat fun (c3 : Int) =>
    callD r_ref23_Permitted (cw f_ref23_Permitted [AV.agg (nGPaper a0), AV.agg (nGScheme a1), I x1, I c3] []) fun (r4 : Bool) =>
    brn (!r4) (some (B false, []))
    (k_ref23_Marked_1 a0 a1 a2 (w64 (x1 + 1))))
   (k_ref23_Marked_1 a0 a1 a2 (w64 (x1 + 1))))
  (some (B true, []))) = some y) : k_ref23_Marked_1 a0 a1 a2 x1 = some y :=
  pt_of zT [] (by kernel_rfl) h

theorem e_ref23_Marked (a0 : GPaper) (a1 : GScheme) (a2 : List Int) {y : AV × Mem} (h : (
  callD r_ref23_Valid (cw f_ref23_Valid [AV.agg (nGPaper a0), AV.agg (nGScheme a1)] []) fun (r0 : Bool) =>
  brn (!r0) (some (B false, []))
  (brn ((↑(List.map nI_i64 a2).length : Int) != (↑(List.map nGPart a0.Parts).length : Int)) (some (B false, []))
   (k_ref23_Marked_1 a0 a1 a2 0))) = some y) : cw f_ref23_Marked [AV.agg (nGPaper a0), AV.agg (nGScheme a1), AV.sl 1 (List.map nI_i64 a2)] [] = some y :=
  callw_tree R_ref23_Marked zT [] rfl (by kernel_rfl) (by kernel_rfl) (by kernel_rfl) (by kernel_rfl) (by kernel_rfl) h

theorem e_ref24_in (a0 : Int) (a1 : Int) (a2 : Int) {y : AV × Mem} (h : (
  brn (decide (a1 ≤ a0)) (some (B (decide (a0 ≤ a2)), []))
  (some (B false, []))) = some y) : cw f_ref24_in [I a0, I a1, I a2] [] = some y :=
  callw_tree R_ref24_in zT [] rfl (by kernel_rfl) (by kernel_rfl) (by kernel_rfl) (by kernel_rfl) (by kernel_rfl) h

noncomputable def k_ref06_ValidPaper_1 (a0 : GPaper) (x0 : Int) (x1 : Int) : Option (AV × Mem) := pt R_ref06_ValidPaper 1 ⟨[(1, AV.loc 1 3 0 0), (3, I x0), (4, I x1)], [(1, ⟨3, ty_api_Paper, [nGPaper a0], true⟩)]⟩

theorem t_ref06_ValidPaper_1 (a0 : GPaper) (x0 : Int) (x1 : Int) {y : AV × Mem} (h : (
  brn (decide (x1 < (↑(List.map nGPart a0.Parts).length : Int))) (chk ((0 : Int) ≤ x1) <|
   elemD dGPart (List.map nGPart a0.Parts) x1.toNat fun (c2 : GPart) =>
   callD r_ref06_ValidPart (cw f_ref06_ValidPart [AV.agg (nGPart c2)] []) fun (r3 : Bool) =>
   brn (!r3) (some (B false, []))
   (chk ((0 : Int) ≤ x1) <|
    elemD dGPart (List.map nGPart a0.Parts) x1.toNat fun (c4 : GPart) =>
    k_ref06_ValidPaper_1 a0 (w64 (x0 + c4.Max)) (w64 (x1 + 1))))
  (some (B (decide (x0 ≤ 200)), []))) = some y) : k_ref06_ValidPaper_1 a0 x0 x1 = some y :=
  pt_of zT [] (by kernel_rfl) h

theorem e_ref06_ValidPaper (a0 : GPaper) {y : AV × Mem} (h : (
  brn (decide (a0.Code < 0)) (some (B false, []))
  (brn (decide (31 < a0.Code)) (some (B false, []))
   (brn (decide (a0.Variant < 0)) (some (B false, []))
    (brn (decide (4 ≤ a0.Variant)) (some (B false, []))
     (brn (decide ((↑(List.map nGPart a0.Parts).length : Int) < 1)) (some (B false, []))
      (brn (decide (24 < (↑(List.map nGPart a0.Parts).length : Int))) (some (B false, []))
       (k_ref06_ValidPaper_1 a0 0 0))))))) = some y) : cw f_ref06_ValidPaper [AV.agg (nGPaper a0)] [] = some y :=
  callw_tree R_ref06_ValidPaper zT [] rfl (by kernel_rfl) (by kernel_rfl) (by kernel_rfl) (by kernel_rfl) (by kernel_rfl) h

noncomputable def k_ref28_Valid_1 (a0 : GMarkEvent) (x2 : Int) : Option (AV × Mem) := pt R_ref28_Valid 1 ⟨[(1, AV.loc 1 9 0 0), (3, I x2)], [(1, ⟨9, ty_api_MarkEvent, [nGMarkEvent a0], true⟩)]⟩

theorem t_ref28_Valid_1 (a0 : GMarkEvent) (x2 : Int) {y : AV × Mem} (h : (
  brn (decide (x2 < (↑(List.map nI_i64 a0.Pages).length : Int))) (chk ((0 : Int) ≤ x2) <|
   elemD dI_i64 (List.map nI_i64 a0.Pages) x2.toNat fun (c3 : Int) =>
   callD r_ref28_in (cw f_ref28_in [I c3, I 0, I 1152921504606846976] []) fun (r4 : Bool) =>
   brn (!r4) (some (B false, []))
   (k_ref28_Valid_1 a0 (w64 (x2 + 1))))
  (brn (a0.Kind == 0) (brn (decide (1 ≤ a0.Stamp.Source)) (callD r_ref28_in (cw f_ref28_in [I a0.Part, I 0, I 23] []) fun (r5 : Bool) =>
     brn r5 (callD r_ref28_in (cw f_ref28_in [I a0.Value, I (-1), I 40] []) fun (r6 : Bool) =>
      brn r6 (some (B (a0.Marker == 0), []))
      (some (B false, [])))
     (some (B false, [])))
    (some (B false, [])))
   (brn (a0.Kind == 1) (brn (a0.Stamp.Source == 0) (brn (a0.Script == 0) (brn (a0.Part == 0) (brn (a0.Value == 0) (callD r_ref28_in (cw f_ref28_in [I a0.Marker, I 1, I 99] []) fun (r7 : Bool) =>
         brn r7 (some (B ((↑(List.map nI_i64 a0.Pages).length : Int) == 0), []))
         (some (B false, [])))
        (some (B false, [])))
       (some (B false, [])))
      (some (B false, [])))
     (some (B false, [])))
    (brn (a0.Kind == 2) (brn (a0.Stamp.Source == 0) (brn (a0.Value == 0) (brn (a0.Marker == 0) (callD r_ref28_in (cw f_ref28_in [I a0.Part, I (-1), I 23] []) fun (r8 : Bool) =>
         brn r8 (some (B ((↑(List.map nI_i64 a0.Pages).length : Int) == 0), []))
         (some (B false, [])))
        (some (B false, [])))
       (some (B false, [])))
      (some (B false, [])))
     (some (B false, [])))))) = some y) : k_ref28_Valid_1 a0 x2 = some y :=
  pt_of zT [] (by kernel_rfl) h

theorem e_ref28_Valid (a0 : GMarkEvent) {y : AV × Mem} (h : (
  callD r_ref02_Valid (cw f_ref02_Valid [AV.agg (nGStamp a0.Stamp)] []) fun (r0 : Bool) =>
  brn (!r0) (some (B false, []))
  (callD r_ref28_in (cw f_ref28_in [I a0.Script, I 0, I 319999] []) fun (r1 : Bool) =>
   brn (!r1) (some (B false, []))
   (brn (decide (12 < (↑(List.map nI_i64 a0.Pages).length : Int))) (some (B false, []))
    (k_ref28_Valid_1 a0 0)))) = some y) : cw f_ref28_Valid [AV.agg (nGMarkEvent a0)] [] = some y :=
  callw_tree R_ref28_Valid zT [] rfl (by kernel_rfl) (by kernel_rfl) (by kernel_rfl) (by kernel_rfl) (by kernel_rfl) h

theorem e_ref28_Same (a0 : GMarkEvent) (a1 : GMarkEvent) {y : AV × Mem} (h : (
  brn (a0.Stamp.Time == a1.Stamp.Time && (a0.Stamp.Source == a1.Stamp.Source && (a0.Stamp.Seq == a1.Stamp.Seq && true))) (brn (a0.Kind == a1.Kind) (brn (a0.Script == a1.Script) (brn (a0.Part == a1.Part) (brn (a0.Value == a1.Value) (brn (a0.Marker == a1.Marker) (callD r_ref28_SamePages (cw f_ref28_SamePages [AV.sl 1 (List.map nI_i64 a0.Pages), AV.sl 1 (List.map nI_i64 a1.Pages)] []) fun (r0 : Bool) =>
        some (B r0, []))
       (some (B false, [])))
      (some (B false, [])))
     (some (B false, [])))
    (some (B false, [])))
   (some (B false, [])))
  (some (B false, []))) = some y) : cw f_ref28_Same [AV.agg (nGMarkEvent a0), AV.agg (nGMarkEvent a1)] [] = some y :=
  callw_tree R_ref28_Same zT [] rfl (by kernel_rfl) (by kernel_rfl) (by kernel_rfl) (by kernel_rfl) (by kernel_rfl) h

theorem e_ref28_Before (a0 : GMarkEvent) (a1 : GMarkEvent) {y : AV × Mem} (h : (
  callD r_ref28_Less (cw f_ref28_Less [AV.agg (nGStamp a0.Stamp), AV.agg (nGStamp a1.Stamp)] []) fun (r0 : Bool) =>
  some (B r0, [])) = some y) : cw f_ref28_Before [AV.agg (nGMarkEvent a0), AV.agg (nGMarkEvent a1)] [] = some y :=
  callw_tree R_ref28_Before zT [] rfl (by kernel_rfl) (by kernel_rfl) (by kernel_rfl) (by kernel_rfl) (by kernel_rfl) h

noncomputable def k_ref29_judge_1 (a0 : GSetup) (a2 : List Gref29Noted) (r0 : Int × Bool) (r1 : (List Int) × Bool) (x2 : List (List AV)) (x3 : List (List AV)) (x4 : Int) : Option (AV × Mem) := pt R_ref29_judge 1 ⟨[(2, AV.sl 2 (List.map nGref29Noted a2)), (3, AV.loc 3 9 0 0), (8, I r0.fst), (10, AV.sl 1 (List.map nI_i64 r1.fst)), (12, AV.row 12 1 0 (List.length x2)), (13, AV.row 13 1 0 (List.length x3)), (14, I x4)], [(3, ⟨9, ty_api_Setup, [nGSetup a0], true⟩), (12, ⟨1, ty_i64_2, x2, false⟩), (13, ⟨1, ty_i64_2, x3, false⟩)]⟩

noncomputable def k_ref29_judge_2 (a0 : GSetup) (a2 : List Gref29Noted) (r0 : Int × Bool) (r1 : (List Int) × Bool) (x4 : Int) (x8 : List (List AV)) (x9 : List (List AV)) (x10 : Bool) (x11 : Int) : Option (AV × Mem) := pt R_ref29_judge 2 ⟨[(2, AV.sl 2 (List.map nGref29Noted a2)), (3, AV.loc 3 9 0 0), (8, I r0.fst), (10, AV.sl 1 (List.map nI_i64 r1.fst)), (12, AV.row 12 1 0 (List.length x8)), (13, AV.row 13 1 0 (List.length x9)), (14, I x4), (15, B x10), (16, I x11)], [(3, ⟨9, ty_api_Setup, [nGSetup a0], true⟩), (12, ⟨1, ty_i64_2, x8, false⟩), (13, ⟨1, ty_i64_2, x9, false⟩)]⟩

theorem t_ref29_judge_1 (a0 : GSetup) (a2 : List Gref29Noted) (r0 : Int × Bool) (r1 : (List Int) × Bool) (x2 : List (List AV)) (x3 : List (List AV)) (x4 : Int) {y : AV × Mem} (h : (
  chk (0 ≤ r0.fst) <|
  elemD dGPaper (List.map nGPaper a0.Papers) (Int.toNat r0.fst) fun (c5 : GPaper) =>
  brn (decide (x4 < (↑(List.map nGPart c5.Parts).length : Int))) (chk (0 ≤ r0.fst) <|
   elemD dGPaper (List.map nGPaper a0.Papers) (Int.toNat r0.fst) fun (c6 : GPaper) =>
   callD r_ref29_Open (cw f_ref29_Open [AV.agg (nGPaper c6), I x4] []) fun (r7 : Bool) =>
   brn (!r7) (k_ref29_judge_1 a0 a2 r0 r1 x2 x3 (w64 (x4 + 1)))
   (k_ref29_judge_2 a0 a2 r0 r1 x4 x2 x3 false 0))
  (chk (0 + x2.length ≤ x2.length) <|
   chk (0 + x3.length ≤ x3.length) <|
   callD r_ref27_Good (cw f_ref27_Good [AV.agg (nGMonitorRule a0.Monitor), AV.sl 1 (List.take x2.length x2), AV.sl 1 (List.take x3.length x3)] []) fun (r12 : Bool) =>
   some (AV.tup [B true, B r12], []))) = some y) : k_ref29_judge_1 a0 a2 r0 r1 x2 x3 x4 = some y :=
  pt_of zT [] (by kernel_rfl) h

theorem t_ref29_judge_2 (a0 : GSetup) (a2 : List Gref29Noted) (r0 : Int × Bool) (r1 : (List Int) × Bool) (x4 : Int) (x8 : List (List AV)) (x9 : List (List AV)) (x10 : Bool) (x11 : Int) {y : AV × Mem} (h : (
  brn (decide (x11 < (↑(List.map nGref29Noted a2).length : Int))) (chk ((0 : Int) ≤ x11) <|
   elemD dGref29Noted (List.map nGref29Noted a2) x11.toNat fun (c13 : Gref29Noted) =>
   brn (c13.part == x4) (chk ((0 : Int) ≤ x4) <|
    elemD dI_i64 (List.map nI_i64 r1.fst) x4.toNat fun (c14 : Int) =>
    chk (x8.length = x8.length) <|
    chk ((x8.length + 1) * (8 + 1) ≤ 1099511627776) <|
    chk ((0 : Int) ≤ x11) <|
    elemD dGref29Noted (List.map nGref29Noted a2) x11.toNat fun (c15 : Gref29Noted) =>
    chk (x9.length = x9.length) <|
    chk ((x9.length + 1) * (8 + 1) ≤ 1099511627776) <|
    chk ((x8 ++ [[AV.v (Go.Value.int IntKind.i64 c14)]]).length = (x8 ++ [[AV.v (Go.Value.int IntKind.i64 c14)]]).length) <|
    chk ((x9 ++ [[AV.v (Go.Value.int IntKind.i64 c15.value)]]).length = (x9 ++ [[AV.v (Go.Value.int IntKind.i64 c15.value)]]).length) <|
    k_ref29_judge_2 a0 a2 r0 r1 x4 (x8 ++ ([nI_i64 c14])) (x9 ++ ([nI_i64 c15.value])) true (w64 (x11 + 1)))
   (k_ref29_judge_2 a0 a2 r0 r1 x4 x8 x9 x10 (w64 (x11 + 1))))
  (brn (!x10) (some (AV.tup [B false, B false], []))
   (k_ref29_judge_1 a0 a2 r0 r1 x8 x9 (w64 (x4 + 1))))) = some y) : k_ref29_judge_2 a0 a2 r0 r1 x4 x8 x9 x10 x11 = some y :=
  pt_of zT [] (by kernel_rfl) h

theorem e_ref29_judge (a0 : GSetup) (a1 : Int) (a2 : List Gref29Noted) {y : AV × Mem} (h : (
  callD r_ref29_PaperOf (cw f_ref29_PaperOf [AV.agg (nGSetup a0), I a1] []) fun (r0 : Int × Bool) =>
  callD r_ref26_Definitive (cw f_ref26_Definitive [AV.sl 2 (List.map nGSeed a0.Seeds), I a1] []) fun (r1 : (List Int) × Bool) =>
  k_ref29_judge_1 a0 a2 r0 r1 [] [] 0) = some y) : cw f_ref29_judge [AV.agg (nGSetup a0), I a1, AV.sl 2 (List.map nGref29Noted a2)] [] = some y :=
  callw_tree R_ref29_judge zT [] rfl (by kernel_rfl) (by kernel_rfl) (by kernel_rfl) (by kernel_rfl) (by kernel_rfl) h

noncomputable def k_ref27_Step_1008 (a0 : GMonitorRule) (a1 : GWatch) (a2 : Bool) : Option (AV × Mem) := pt R_ref27_Step 1008 ⟨[(3, AV.loc 3 4 0 0), (6, AV.loc 6 2 0 0), (8, AV.row 8 1 (0 + Int.toNat 1) ((List.map nBool a1.Last ++ [[AV.v (Go.Value.bool a2)]]).length - Int.toNat 1))], [(3, ⟨4, ty_api_MonitorRule, [nGMonitorRule a0], true⟩), (6, ⟨2, ty_api_Watch, [[AV.v (.slice none 0 0), B false]], true⟩), (8, ⟨1, ty_bool, (List.map nBool a1.Last) ++ ([nBool a2]), false⟩)]⟩

noncomputable def k_ref27_Step_1008v1 (a0 : GMonitorRule) (a1 : GWatch) (a2 : Bool) : Option (AV × Mem) := pt R_ref27_Step 1008 ⟨[(3, AV.loc 3 4 0 0), (6, AV.loc 6 2 0 0), (8, AV.row 8 1 0 (List.length ((List.map nBool a1.Last) ++ ([[B a2]])))), (27, B false)], [(3, ⟨4, ty_api_MonitorRule, [nGMonitorRule a0], true⟩), (6, ⟨2, ty_api_Watch, [[AV.v (.slice none 0 0), B false]], true⟩), (8, ⟨1, ty_bool, (List.map nBool a1.Last) ++ ([nBool a2]), false⟩)]⟩

theorem t_ref27_Step_1008 (a0 : GMonitorRule) (a1 : GWatch) (a2 : Bool) {y : AV × Mem} (h : (
  chk (0 + Int.toNat 1 + ((List.map nBool a1.Last ++ [[AV.v (Go.Value.bool a2)]]).length - Int.toNat 1) ≤ (List.map nBool a1.Last ++ [[AV.v (Go.Value.bool a2)]]).length) <|
  callD r_ref27_fails (cw f_ref27_fails [AV.sl 1 (List.take ((List.map nBool a1.Last ++ [[AV.v (Go.Value.bool a2)]]).length - Int.toNat 1) (List.drop (0 + Int.toNat 1) ((List.map nBool a1.Last) ++ ([nBool a2]))))] []) fun (r1 : Int) =>
  chk (0 + Int.toNat 1 + ((List.map nBool a1.Last ++ [[AV.v (Go.Value.bool a2)]]).length - Int.toNat 1) ≤ (List.map nBool a1.Last ++ [[AV.v (Go.Value.bool a2)]]).length) <|
  some (AV.tup [AV.agg [AV.sl 1 (List.take ((List.map nBool a1.Last ++ [[AV.v (Go.Value.bool a2)]]).length - Int.toNat 1) (List.drop (0 + Int.toNat 1) ((List.map nBool a1.Last) ++ ([[B a2]])))), B (decide (a0.Fails ≤ r1))], I 0], [])) = some y) : k_ref27_Step_1008 a0 a1 a2 = some y :=
  pt_of zT [8] (by kernel_rfl) h

theorem t_ref27_Step_1008v1 (a0 : GMonitorRule) (a1 : GWatch) (a2 : Bool) {y : AV × Mem} (h : (
  chk (0 + (List.map nBool a1.Last ++ [[AV.v (Go.Value.bool a2)]]).length ≤ (List.map nBool a1.Last ++ [[AV.v (Go.Value.bool a2)]]).length) <|
  callD r_ref27_fails (cw f_ref27_fails [AV.sl 1 (List.take ((List.map nBool a1.Last ++ [[AV.v (Go.Value.bool a2)]]).length) ((List.map nBool a1.Last) ++ ([nBool a2])))] []) fun (r2 : Int) =>
  chk (0 + (List.map nBool a1.Last ++ [[AV.v (Go.Value.bool a2)]]).length ≤ (List.map nBool a1.Last ++ [[AV.v (Go.Value.bool a2)]]).length) <|
  some (AV.tup [AV.agg [AV.sl 1 (List.take ((List.map nBool a1.Last ++ [[AV.v (Go.Value.bool a2)]]).length) ((List.map nBool a1.Last) ++ ([[B a2]]))), B (decide (a0.Fails ≤ r2))], I 0], [])) = some y) : k_ref27_Step_1008v1 a0 a1 a2 = some y :=
  pt_of zT [8] (by kernel_rfl) h

theorem e_ref27_Step (a0 : GMonitorRule) (a1 : GWatch) (a2 : Bool) {y : AV × Mem} (h : (
  callD r_ref27_Valid (cw f_ref27_Valid [AV.agg (nGMonitorRule a0), AV.agg (nGWatch a1)] []) fun (r0 : Bool) =>
  brn (!r0) (some (AV.tup [AV.agg (nGWatch (⟨[], false⟩)), I 1], []))
  (brn a1.Suspended (some (AV.tup [AV.agg (nGWatch (⟨[], false⟩)), I 8], []))
   (chk ((List.map nBool a1.Last).length * (1 + 1) ≤ 1099511627776) <|
    chk ((List.map nBool a1.Last).length = (List.map nBool a1.Last).length) <|
    chk (((List.map nBool a1.Last).length + 1) * (1 + 1) ≤ 1099511627776) <|
    chk ((List.map nBool a1.Last ++ [[AV.v (Go.Value.bool a2)]]).length = (List.map nBool a1.Last ++ [[AV.v (Go.Value.bool a2)]]).length) <|
    brn (decide (a0.Window < (↑(List.map nBool a1.Last ++ [[AV.v (Go.Value.bool a2)]]).length : Int))) (chk ((0 : Int) ≤ 1) <|
     chk (Int.toNat 1 ≤ (List.map nBool a1.Last ++ [[AV.v (Go.Value.bool a2)]]).length) <|
     chk ((List.map nBool a1.Last ++ [[AV.v (Go.Value.bool a2)]]).length ≤ (List.map nBool a1.Last ++ [[AV.v (Go.Value.bool a2)]]).length) <|
     k_ref27_Step_1008 a0 a1 a2)
    (k_ref27_Step_1008v1 a0 a1 a2)))) = some y) : cw f_ref27_Step [AV.agg (nGMonitorRule a0), AV.agg (nGWatch a1), B a2] [] = some y :=
  callw_tree R_ref27_Step zT [8] rfl (by kernel_rfl) (by kernel_rfl) (by kernel_rfl) (by kernel_rfl) (by kernel_rfl) h

end Go.Proofs.YtdhibifcofaioaaGreat
