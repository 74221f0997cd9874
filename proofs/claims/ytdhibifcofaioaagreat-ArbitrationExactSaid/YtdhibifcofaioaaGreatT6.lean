/- What the functions compute, between two cut points: printed by a program, checked by the kernel. -/
import Derived.Test.YtdhibifcofaioaaGreatAnn
namespace Go.Proofs.YtdhibifcofaioaaGreat
open Go.Ab
set_option maxRecDepth 100000
set_option linter.unusedVariables false

noncomputable def k_ref24_CheckScripts_1 (a0 : List GScript) (x0 : Int) : Option (AV × Mem) := pt R_ref24_CheckScripts 1 ⟨[(0, AV.sl 7 (List.map nGScript a0)), (3, I x0)], []⟩

theorem t_ref24_CheckScripts_1 (a0 : List GScript) (x0 : Int) {y : AV × Mem} (h : (
  brn (decide (x0 < (↑(List.map nGScript a0).length : Int))) (chk ((0 : Int) ≤ x0) <|
   elemD dGScript (List.map nGScript a0) x0.toNat fun (c1 : GScript) =>
   callD r_ref24_in (cw f_ref24_in [I c1.Paper, I 0, I 31] []) fun (r2 : Bool) =>
   brn (!r2) (some (I 2, []))
   (callD r_ref24_in (cw f_ref24_in [I c1.Candidate, I 0, I 9999] []) fun (r3 : Bool) =>
    brn (!r3) (some (I 2, []))
    (callD r_ref24_in (cw f_ref24_in [I c1.Centre, I 0, I 99] []) fun (r4 : Bool) =>
     brn (!r4) (some (I 2, []))
     (callD r_ref24_in (cw f_ref24_in [I c1.Variant, I 0, I 31] []) fun (r5 : Bool) =>
      brn (!r5) (some (I 2, []))
      (brn (c1.Number != w64 (w64 (c1.Paper * 10000) + c1.Candidate)) (some (I 1, []))
       (brn (decide (12 < (↑(List.map nI_i64 c1.Pages).length : Int))) (some (I 1, []))
        (brn (decide (0 < x0)) (chk ((0 : Int) ≤ (w64 (x0 - 1))) <|
          elemD dGScript (List.map nGScript a0) ((w64 (x0 - 1)).toNat) fun (c6 : GScript) =>
          brn (decide (c1.Number ≤ c6.Number)) (some (I 43, []))
          (k_ref24_CheckScripts_1 a0 (w64 (x0 + 1))))
         (k_ref24_CheckScripts_1 a0 (w64 (x0 + 1))))))))))
  (some (I 0, []))) = some y) : k_ref24_CheckScripts_1 a0 x0 = some y :=
  pt_of zT [] (by kernel_rfl) h

theorem e_ref24_CheckScripts (a0 : List GScript) {y : AV × Mem} (h : (
  brn (decide (60 < (↑(List.map nGScript a0).length : Int))) (some (I 3, []))
  (k_ref24_CheckScripts_1 a0 0)) = some y) : cw f_ref24_CheckScripts [AV.sl 7 (List.map nGScript a0)] [] = some y :=
  callw_tree R_ref24_CheckScripts zT [] rfl (by kernel_rfl) (by kernel_rfl) (by kernel_rfl) (by kernel_rfl) (by kernel_rfl) h

theorem e_ref27_Check (a0 : GMonitorRule) {y : AV × Mem} (h : (
  brn (decide (a0.Part < 0)) (some (I 2, []))
  (brn (decide (200 < a0.Part)) (some (I 2, []))
   (brn (decide (a0.Total < 0)) (some (I 2, []))
    (brn (decide (200 < a0.Total)) (some (I 2, []))
     (brn (decide (a0.Window < 1)) (some (I 2, []))
      (brn (decide (20 < a0.Window)) (some (I 2, []))
       (brn (decide (a0.Fails < 1)) (some (I 2, []))
        (brn (decide (a0.Window < a0.Fails)) (some (I 2, []))
         (some (I 0, [])))))))))) = some y) : cw f_ref27_Check [AV.agg (nGMonitorRule a0)] [] = some y :=
  callw_tree R_ref27_Check zT [] rfl (by kernel_rfl) (by kernel_rfl) (by kernel_rfl) (by kernel_rfl) (by kernel_rfl) h

noncomputable def k_ref23_Valid_1 (a0 : GPaper) (a1 : GScheme) (x1 : Int) : Option (AV × Mem) := pt R_ref23_Valid 1 ⟨[(2, AV.loc 2 3 0 0), (3, AV.loc 3 2 0 0), (5, I ((↑(List.map nGPart a0.Parts).length : Int))), (6, I x1)], [(2, ⟨3, ty_api_Paper, [nGPaper a0], true⟩), (3, ⟨2, ty_api_Scheme, [nGScheme a1], true⟩)]⟩

noncomputable def k_ref23_Valid_2 (a0 : GPaper) (a1 : GScheme) (x1 : Int) (x4 : Int) : Option (AV × Mem) := pt R_ref23_Valid 2 ⟨[(2, AV.loc 2 3 0 0), (3, AV.loc 3 2 0 0), (5, I ((↑(List.map nGPart a0.Parts).length : Int))), (6, I x1), (7, I x4)], [(2, ⟨3, ty_api_Paper, [nGPaper a0], true⟩), (3, ⟨2, ty_api_Scheme, [nGScheme a1], true⟩)]⟩

theorem t_ref23_Valid_1 (a0 : GPaper) (a1 : GScheme) (x1 : Int) {y : AV × Mem} (h : (
  brn (decide (x1 < (↑(List.map nGPart a0.Parts).length : Int))) (chk ((0 : Int) ≤ x1) <|
   elemD dI_i64 (List.map nI_i64 a1.Withdrawn) x1.toNat fun (c2 : Int) =>
   brn (decide (c2 < 0)) (some (B false, []))
   (chk ((0 : Int) ≤ x1) <|
    elemD dI_i64 (List.map nI_i64 a1.Withdrawn) x1.toNat fun (c3 : Int) =>
    brn (decide (2 < c3)) (some (B false, []))
    (k_ref23_Valid_2 a0 a1 x1 0)))
  (some (B true, []))) = some y) : k_ref23_Valid_1 a0 a1 x1 = some y :=
  pt_of zT [] (by kernel_rfl) h

theorem t_ref23_Valid_2 (a0 : GPaper) (a1 : GScheme) (x1 : Int) (x4 : Int) {y : AV × Mem} (h : (
  chk ((0 : Int) ≤ x1) <|
  elemD dL_I_i64 (List.map nL_I_i64 a1.Keys) x1.toNat fun (c5 : List Int) =>
  brn (decide (x4 < (↑(List.map nI_i64 c5).length : Int))) (chk ((0 : Int) ≤ x1) <|
   elemD dL_I_i64 (List.map nL_I_i64 a1.Keys) x1.toNat fun (c6 : List Int) =>
   chk ((0 : Int) ≤ x4) <|
   elemD dI_i64 (List.map nI_i64 c6) x4.toNat fun (c7 : Int) =>
   brn (decide (c7 < 0)) (some (B false, []))
   (chk ((0 : Int) ≤ x1) <|
    elemD dL_I_i64 (List.map nL_I_i64 a1.Keys) x1.toNat fun (c8 : List Int) =>
    chk ((0 : Int) ≤ x4) <|
    elemD dI_i64 (List.map nI_i64 c8) x4.toNat fun (c9 : Int) =>
    chk ((0 : Int) ≤ x1) <|
    elemD dGPart (List.map nGPart a0.Parts) x1.toNat fun (c10 : GPart) =>
    brn (decide (c10.Options ≤ c9)) (some (B false, []))
    (brn (decide (0 < x4)) (chk ((0 : Int) ≤ x1) <|
      elemD dL_I_i64 (List.map nL_I_i64 a1.Keys) x1.toNat fun (c11 : List Int) =>
      chk ((0 : Int) ≤ (w64 (x4 - 1))) <|
      elemD dI_i64 (List.map nI_i64 c11) ((w64 (x4 - 1)).toNat) fun (c12 : Int) =>
      chk ((0 : Int) ≤ x1) <|
      elemD dL_I_i64 (List.map nL_I_i64 a1.Keys) x1.toNat fun (c13 : List Int) =>
      chk ((0 : Int) ≤ x4) <|
      elemD dI_i64 (List.map nI_i64 c13) x4.toNat fun (c14 : Int) =>
      brn (decide (c14 ≤ c12)) (some (B false, []))
      (k_ref23_Valid_2 a0 a1 x1 (w64 (x4 + 1))))
     (k_ref23_Valid_2 a0 a1 x1 (w64 (x4 + 1))))))
  (k_ref23_Valid_1 a0 a1 (w64 (x1 + 1)))) = some y) : k_ref23_Valid_2 a0 a1 x1 x4 = some y :=
  pt_of zT [] (by kernel_rfl) h

theorem e_ref23_Valid (a0 : GPaper) (a1 : GScheme) {y : AV × Mem} (h : (
  callD r_ref06_ValidPaper (cw f_ref06_ValidPaper [AV.agg (nGPaper a0)] []) fun (r0 : Bool) =>
  brn (!r0) (some (B false, []))
  (brn ((↑(List.map nL_I_i64 a1.Keys).length : Int) != (↑(List.map nGPart a0.Parts).length : Int)) (some (B false, []))
   (brn ((↑(List.map nI_i64 a1.Withdrawn).length : Int) != (↑(List.map nGPart a0.Parts).length : Int)) (some (B false, []))
    (k_ref23_Valid_1 a0 a1 0)))) = some y) : cw f_ref23_Valid [AV.agg (nGPaper a0), AV.agg (nGScheme a1)] [] = some y :=
  callw_tree R_ref23_Valid zT [] rfl (by kernel_rfl) (by kernel_rfl) (by kernel_rfl) (by kernel_rfl) (by kernel_rfl) h

noncomputable def k_ref26_Fits_1 (a0 : GPaper) (a1 : List Int) (x0 : Int) : Option (AV × Mem) := pt R_ref26_Fits 1 ⟨[(1, AV.sl 1 (List.map nI_i64 a1)), (2, AV.loc 2 3 0 0), (5, I x0)], [(2, ⟨3, ty_api_Paper, [nGPaper a0], true⟩)]⟩

theorem t_ref26_Fits_1 (a0 : GPaper) (a1 : List Int) (x0 : Int) {y : AV × Mem} (h : (
  brn (decide (x0 < (↑(List.map nI_i64 a1).length : Int))) (chk ((0 : Int) ≤ x0) <|
   elemD dI_i64 (List.map nI_i64 a1) x0.toNat fun (c1 : Int) =>
   brn (decide (c1 < 0)) (some (B false, []))
   (chk ((0 : Int) ≤ x0) <|
    elemD dI_i64 (List.map nI_i64 a1) x0.toNat fun (c2 : Int) =>
    chk ((0 : Int) ≤ x0) <|
    elemD dGPart (List.map nGPart a0.Parts) x0.toNat fun (c3 : GPart) =>
    brn (decide (c3.Max < c2)) (some (B false, []))
    (k_ref26_Fits_1 a0 a1 (w64 (x0 + 1)))))
  (some (B true, []))) = some y) : k_ref26_Fits_1 a0 a1 x0 = some y :=
  pt_of zT [] (by kernel_rfl) h

theorem e_ref26_Fits (a0 : GPaper) (a1 : List Int) {y : AV × Mem} (h : (
  brn ((↑(List.map nI_i64 a1).length : Int) != (↑(List.map nGPart a0.Parts).length : Int)) (some (B false, []))
  (k_ref26_Fits_1 a0 a1 0)) = some y) : cw f_ref26_Fits [AV.agg (nGPaper a0), AV.sl 1 (List.map nI_i64 a1)] [] = some y :=
  callw_tree R_ref26_Fits zT [] rfl (by kernel_rfl) (by kernel_rfl) (by kernel_rfl) (by kernel_rfl) (by kernel_rfl) h

noncomputable def k_ref28_disputes_1 (a0 : List GMarkEvent) (x0 : List (List AV)) (x1 : List (List AV)) (x2 : Int) : Option (AV × Mem) := pt R_ref28_disputes 1 ⟨[(0, AV.sl 9 (List.map nGMarkEvent a0)), (4, AV.map 10), (5, AV.map 11), (6, I x2)], [(10, ⟨0, ty_M_A2_i64_i64, x0, false⟩), (11, ⟨0, ty_M_A2_i64_bool, x1, false⟩)]⟩

theorem t_ref28_disputes_1 (a0 : List GMarkEvent) (x0 : List (List AV)) (x1 : List (List AV)) (x2 : Int) {y : AV × Mem} (h : (
  brn (decide (x2 < (↑(List.map nGMarkEvent a0).length : Int))) (chk ((0 : Int) ≤ x2) <|
   elemD dGMarkEvent (List.map nGMarkEvent a0) x2.toNat fun (c3 : GMarkEvent) =>
   callD r_ref28_Valid (cw f_ref28_Valid [AV.agg (nGMarkEvent c3)] []) fun (r4 : Bool) =>
   brn (!r4) (k_ref28_disputes_1 a0 x0 x1 (w64 (x2 + 1)))
   (chk ((0 : Int) ≤ x2) <|
    elemD dGMarkEvent (List.map nGMarkEvent a0) x2.toNat fun (c5 : GMarkEvent) =>
    chk ((0 : Int) ≤ x2) <|
    elemD dGMarkEvent (List.map nGMarkEvent a0) x2.toNat fun (c6 : GMarkEvent) =>
    mapD zP 63 false dI_i64 (I 0) x0 (AV.agg (nA2_I_i64 (c5.Stamp.Source, c6.Stamp.Seq))) fun (c7 : Int) (b8 : Bool) =>
    brn (!b8) (msetD zP 63 3 (AV.agg (nA2_I_i64 (c5.Stamp.Source, c6.Stamp.Seq))) (I x2) x0 fun (m9 : List (List AV)) =>
     k_ref28_disputes_1 a0 m9 x1 (w64 (x2 + 1)))
    (chk (0 ≤ c7) <|
     elemD dGMarkEvent (List.map nGMarkEvent a0) (Int.toNat c7) fun (c10 : GMarkEvent) =>
     chk ((0 : Int) ≤ x2) <|
     elemD dGMarkEvent (List.map nGMarkEvent a0) x2.toNat fun (c11 : GMarkEvent) =>
     callD r_ref28_Same (cw f_ref28_Same [AV.agg (nGMarkEvent c10), AV.agg (nGMarkEvent c11)] []) fun (r12 : Bool) =>
     brn (!r12) (msetD zP 63 4 (AV.agg (nA2_I_i64 (c5.Stamp.Source, c6.Stamp.Seq))) (B true) x1 fun (m13 : List (List AV)) =>
      k_ref28_disputes_1 a0 x0 m13 (w64 (x2 + 1)))
     (k_ref28_disputes_1 a0 x0 x1 (w64 (x2 + 1))))))
  (some (AV.tup [AV.mp x0, AV.mp x1], []))) = some y) : k_ref28_disputes_1 a0 x0 x1 x2 = some y :=
  pt_of zT [] (by kernel_rfl) h

theorem e_ref28_disputes (a0 : List GMarkEvent) {y : AV × Mem} (h : (
  k_ref28_disputes_1 a0 [] [] 0) = some y) : cw f_ref28_disputes [AV.sl 9 (List.map nGMarkEvent a0)] [] = some y :=
  callw_tree R_ref28_disputes zT [] rfl (by kernel_rfl) (by kernel_rfl) (by kernel_rfl) (by kernel_rfl) (by kernel_rfl) h

noncomputable def k_ref28_Sort_1 (r0 : (List GMarkEvent)) (r1 : (List GMarkEvent)) (x2 : List (List AV)) (x3 : Int) (x4 : Int) : Option (AV × Mem) := pt R_ref28_Sort 1 ⟨[(3, AV.row 18 9 0 (List.length (List.map nGMarkEvent r0))), (4, AV.row 24 9 0 (List.length (List.map nGMarkEvent r1))), (5, AV.row 5 9 0 (List.length x2)), (6, I x3), (7, I x4)], [(5, ⟨9, ty_api_MarkEvent, x2, false⟩), (18, ⟨9, ty_api_MarkEvent, List.map nGMarkEvent r0, false⟩), (24, ⟨9, ty_api_MarkEvent, List.map nGMarkEvent r1, false⟩)]⟩

noncomputable def k_ref28_Sort_1007 (r0 : (List GMarkEvent)) (r1 : (List GMarkEvent)) (x2 : List (List AV)) (x3 : Int) (x4 : Int) : Option (AV × Mem) := pt R_ref28_Sort 1007 ⟨[(3, AV.row 18 9 0 (List.length (List.map nGMarkEvent r0))), (4, AV.row 24 9 0 (List.length (List.map nGMarkEvent r1))), (5, AV.row 5 9 0 (List.length x2)), (6, I x3), (7, I x4), (34, B true)], [(5, ⟨9, ty_api_MarkEvent, x2, false⟩), (18, ⟨9, ty_api_MarkEvent, List.map nGMarkEvent r0, false⟩), (24, ⟨9, ty_api_MarkEvent, List.map nGMarkEvent r1, false⟩)]⟩

noncomputable def k_ref28_Sort_1008 (r0 : (List GMarkEvent)) (r1 : (List GMarkEvent)) (x2 : List (List AV)) (x3 : Int) (x4 : Int) : Option (AV × Mem) := pt R_ref28_Sort 1008 ⟨[(3, AV.row 18 9 0 (List.length (List.map nGMarkEvent r0))), (4, AV.row 24 9 0 (List.length (List.map nGMarkEvent r1))), (5, AV.row 5 9 0 (List.length x2)), (6, I x3), (7, I x4), (56, B true)], [(5, ⟨9, ty_api_MarkEvent, x2, false⟩), (18, ⟨9, ty_api_MarkEvent, List.map nGMarkEvent r0, false⟩), (24, ⟨9, ty_api_MarkEvent, List.map nGMarkEvent r1, false⟩)]⟩

noncomputable def k_ref28_Sort_1010 (r0 : (List GMarkEvent)) (r1 : (List GMarkEvent)) (x2 : List (List AV)) (x3 : Int) (x4 : Int) : Option (AV × Mem) := pt R_ref28_Sort 1010 ⟨[(3, AV.row 18 9 0 (List.length (List.map nGMarkEvent r0))), (4, AV.row 24 9 0 (List.length (List.map nGMarkEvent r1))), (5, AV.row 5 9 0 (List.length x2)), (6, I x3), (7, I x4), (56, B false)], [(5, ⟨9, ty_api_MarkEvent, x2, false⟩), (18, ⟨9, ty_api_MarkEvent, List.map nGMarkEvent r0, false⟩), (24, ⟨9, ty_api_MarkEvent, List.map nGMarkEvent r1, false⟩)]⟩

theorem t_ref28_Sort_1 (r0 : (List GMarkEvent)) (r1 : (List GMarkEvent)) (x2 : List (List AV)) (x3 : Int) (x4 : Int) {y : AV × Mem} (h : (
  brn (decide (x3 < (↑(List.map nGMarkEvent r0).length : Int))) (k_ref28_Sort_1007 r0 r1 x2 x3 x4)
  (brn (decide (x4 < (↑(List.map nGMarkEvent r1).length : Int))) (k_ref28_Sort_1007 r0 r1 x2 x3 x4)
   (chk (x2.length = x2.length) <|
    chk (x2.length = x2.length) <|
    some (AV.new 9 ty_api_MarkEvent x2, [])))) = some y) : k_ref28_Sort_1 r0 r1 x2 x3 x4 = some y :=
  pt_of zT [10, 8, 7] (by kernel_rfl) h

theorem t_ref28_Sort_1007 (r0 : (List GMarkEvent)) (r1 : (List GMarkEvent)) (x2 : List (List AV)) (x3 : Int) (x4 : Int) {y : AV × Mem} (h : (
  brn (x4 == (↑(List.map nGMarkEvent r1).length : Int)) (k_ref28_Sort_1008 r0 r1 x2 x3 x4)
  (brn (decide (x3 < (↑(List.map nGMarkEvent r0).length : Int))) (chk ((0 : Int) ≤ x4) <|
    chk ((x4 : Int) < ((↑(List.map nGMarkEvent r1).length : Int))) <|
    elemD dGMarkEvent (List.map nGMarkEvent r1) (0 + x4.toNat) fun (c5 : GMarkEvent) =>
    chk ((0 : Int) ≤ x3) <|
    chk ((x3 : Int) < ((↑(List.map nGMarkEvent r0).length : Int))) <|
    elemD dGMarkEvent (List.map nGMarkEvent r0) (0 + x3.toNat) fun (c6 : GMarkEvent) =>
    callD r_ref28_Before (cw f_ref28_Before [AV.agg (nGMarkEvent c5), AV.agg (nGMarkEvent c6)] []) fun (r7 : Bool) =>
    brn (!r7) (k_ref28_Sort_1008 r0 r1 x2 x3 x4)
    (k_ref28_Sort_1010 r0 r1 x2 x3 x4))
   (k_ref28_Sort_1010 r0 r1 x2 x3 x4))) = some y) : k_ref28_Sort_1007 r0 r1 x2 x3 x4 = some y :=
  pt_of zT [10, 8, 7] (by kernel_rfl) h

theorem t_ref28_Sort_1008 (r0 : (List GMarkEvent)) (r1 : (List GMarkEvent)) (x2 : List (List AV)) (x3 : Int) (x4 : Int) {y : AV × Mem} (h : (
  chk ((0 : Int) ≤ x3) <|
  chk ((x3 : Int) < ((↑(List.map nGMarkEvent r0).length : Int))) <|
  elemD dGMarkEvent (List.map nGMarkEvent r0) (0 + x3.toNat) fun (c8 : GMarkEvent) =>
  chk (x2.length = x2.length) <|
  chk ((x2.length + 1) * (88 + 1) ≤ 1099511627776) <|
  chk ((x2 ++ [[AV.v (Go.Value.int IntKind.i64 c8.Stamp.Time), AV.v (Go.Value.int IntKind.i64 c8.Stamp.Source), AV.v (Go.Value.int IntKind.i64 c8.Stamp.Seq), AV.v (Go.Value.int IntKind.i64 c8.Kind), AV.v (Go.Value.int IntKind.i64 c8.Script), AV.v (Go.Value.int IntKind.i64 c8.Part), AV.v (Go.Value.int IntKind.i64 c8.Value), AV.v (Go.Value.int IntKind.i64 c8.Marker), AV.sl 1 (List.map nI_i64 c8.Pages)]]).length = (x2 ++ [[AV.v (Go.Value.int IntKind.i64 c8.Stamp.Time), AV.v (Go.Value.int IntKind.i64 c8.Stamp.Source), AV.v (Go.Value.int IntKind.i64 c8.Stamp.Seq), AV.v (Go.Value.int IntKind.i64 c8.Kind), AV.v (Go.Value.int IntKind.i64 c8.Script), AV.v (Go.Value.int IntKind.i64 c8.Part), AV.v (Go.Value.int IntKind.i64 c8.Value), AV.v (Go.Value.int IntKind.i64 c8.Marker), AV.sl 1 (List.map nI_i64 c8.Pages)]]).length) <|
  k_ref28_Sort_1 r0 r1 (x2 ++ ([nGMarkEvent c8])) (w64 (x3 + 1)) x4) = some y) : k_ref28_Sort_1008 r0 r1 x2 x3 x4 = some y :=
  pt_of zT [10, 8, 7] (by kernel_rfl) h

theorem t_ref28_Sort_1010 (r0 : (List GMarkEvent)) (r1 : (List GMarkEvent)) (x2 : List (List AV)) (x3 : Int) (x4 : Int) {y : AV × Mem} (h : (
  chk ((0 : Int) ≤ x4) <|
  chk ((x4 : Int) < ((↑(List.map nGMarkEvent r1).length : Int))) <|
  elemD dGMarkEvent (List.map nGMarkEvent r1) (0 + x4.toNat) fun (c9 : GMarkEvent) =>
  chk (x2.length = x2.length) <|
  chk ((x2.length + 1) * (88 + 1) ≤ 1099511627776) <|
  chk ((x2 ++ [[AV.v (Go.Value.int IntKind.i64 c9.Stamp.Time), AV.v (Go.Value.int IntKind.i64 c9.Stamp.Source), AV.v (Go.Value.int IntKind.i64 c9.Stamp.Seq), AV.v (Go.Value.int IntKind.i64 c9.Kind), AV.v (Go.Value.int IntKind.i64 c9.Script), AV.v (Go.Value.int IntKind.i64 c9.Part), AV.v (Go.Value.int IntKind.i64 c9.Value), AV.v (Go.Value.int IntKind.i64 c9.Marker), AV.sl 1 (List.map nI_i64 c9.Pages)]]).length = (x2 ++ [[AV.v (Go.Value.int IntKind.i64 c9.Stamp.Time), AV.v (Go.Value.int IntKind.i64 c9.Stamp.Source), AV.v (Go.Value.int IntKind.i64 c9.Stamp.Seq), AV.v (Go.Value.int IntKind.i64 c9.Kind), AV.v (Go.Value.int IntKind.i64 c9.Script), AV.v (Go.Value.int IntKind.i64 c9.Part), AV.v (Go.Value.int IntKind.i64 c9.Value), AV.v (Go.Value.int IntKind.i64 c9.Marker), AV.sl 1 (List.map nI_i64 c9.Pages)]]).length) <|
  k_ref28_Sort_1 r0 r1 (x2 ++ ([nGMarkEvent c9])) x3 (w64 (x4 + 1))) = some y) : k_ref28_Sort_1010 r0 r1 x2 x3 x4 = some y :=
  pt_of zT [10, 8, 7] (by kernel_rfl) h

theorem e_ref28_Sort (a0 : List GMarkEvent) {y : AV × Mem} (h : (
  brn (decide ((↑(List.map nGMarkEvent a0).length : Int) < 2)) (chk ((List.map nGMarkEvent a0).length * (88 + 1) ≤ 1099511627776) <|
   chk ((List.map nGMarkEvent a0).length = (List.map nGMarkEvent a0).length) <|
   chk ((List.map nGMarkEvent a0).length = (List.map nGMarkEvent a0).length) <|
   some (AV.new 9 ty_api_MarkEvent (List.map nGMarkEvent a0), []))
  (chk ((2 : Int) ≠ 0) <|
   chk ((0 : Int) ≤ (w64 ((↑(List.map nGMarkEvent a0).length : Int).tdiv 2))) <|
   chk (0 ≤ (w64 ((↑(List.map nGMarkEvent a0).length : Int).tdiv 2)).toNat) <|
   chk ((w64 ((↑(List.map nGMarkEvent a0).length : Int).tdiv 2)).toNat ≤ (List.map nGMarkEvent a0).length) <|
   callD r_ref28_Sort (cw f_ref28_Sort [AV.sl 9 (List.take ((w64 ((↑(List.map nGMarkEvent a0).length : Int).tdiv 2)).toNat) (List.map nGMarkEvent a0))] []) fun (r0 : (List GMarkEvent)) =>
   chk ((2 : Int) ≠ 0) <|
   chk ((0 : Int) ≤ (w64 ((↑(List.map nGMarkEvent a0).length : Int).tdiv 2))) <|
   chk ((w64 ((↑(List.map nGMarkEvent a0).length : Int).tdiv 2)).toNat ≤ (List.map nGMarkEvent a0).length) <|
   chk ((List.map nGMarkEvent a0).length ≤ (List.map nGMarkEvent a0).length) <|
   callD r_ref28_Sort (cw f_ref28_Sort [AV.sl 9 (List.drop ((w64 ((↑(List.map nGMarkEvent a0).length : Int).tdiv 2)).toNat) (List.take ((List.map nGMarkEvent a0).length) (List.map nGMarkEvent a0)))] []) fun (r1 : (List GMarkEvent)) =>
   k_ref28_Sort_1 r0 r1 [] 0 0)) = some y) : cw f_ref28_Sort [AV.sl 9 (List.map nGMarkEvent a0)] [] = some y :=
  callw_tree R_ref28_Sort zT [10, 8, 7] rfl (by kernel_rfl) (by kernel_rfl) (by kernel_rfl) (by kernel_rfl) (by kernel_rfl) h

end Go.Proofs.YtdhibifcofaioaaGreat
