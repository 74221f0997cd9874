/- What the functions compute, between two cut points: printed by a program, checked by the kernel. -/
import Derived.Test.YtdhibifcofaioaaGreatAnn
namespace Go.Proofs.YtdhibifcofaioaaGreat
open Go.Ab
set_option maxRecDepth 100000
set_option linter.unusedVariables false

noncomputable def k_ref24_Fits_1 (a0 : GMarker) (a1 : GScript) (x0 : Int) : Option (AV × Mem) := pt R_ref24_Fits 1 ⟨[(2, AV.loc 2 5 0 0), (3, AV.loc 3 7 0 0), (5, I x0)], [(2, ⟨5, ty_api_Marker, [nGMarker a0], true⟩), (3, ⟨7, ty_api_Script, [nGScript a1], true⟩)]⟩

theorem t_ref24_Fits_1 (a0 : GMarker) (a1 : GScript) (x0 : Int) {y : AV × Mem} (h : (
  brn (decide (x0 < (↑(List.map nI_i64 a0.Papers).length : Int))) (chk ((0 : Int) ≤ x0) <|
   elemD dI_i64 (List.map nI_i64 a0.Papers) x0.toNat fun (c1 : Int) =>
   brn (c1 == a1.Paper) (some (B (a0.Centre != a1.Centre), []))
   (k_ref24_Fits_1 a0 a1 (w64 (x0 + 1))))
  (some (B false, []))) = some y) : k_ref24_Fits_1 a0 a1 x0 = some y :=
  pt_of zT [] (by kernel_rfl) h

theorem e_ref24_Fits (a0 : GMarker) (a1 : GScript) {y : AV × Mem} (h : (
  k_ref24_Fits_1 a0 a1 0) = some y) : cw f_ref24_Fits [AV.agg (nGMarker a0), AV.agg (nGScript a1)] [] = some y :=
  callw_tree R_ref24_Fits zT [] rfl (by kernel_rfl) (by kernel_rfl) (by kernel_rfl) (by kernel_rfl) (by kernel_rfl) h

noncomputable def k_cmp_Or_int_1 (a0 : List Int) (x0 : Int) : Option (AV × Mem) := pt R_cmp_Or_int 1 ⟨[(3, I 0), (6, AV.sl 1 (List.map nI_i64 a0)), (7, I ((↑(List.map nI_i64 a0).length : Int))), (8, I x0)], []⟩

theorem t_cmp_Or_int_1 (a0 : List Int) (x0 : Int) {y : AV × Mem} (h : (
  brn (decide (x0 < (↑(List.map nI_i64 a0).length : Int))) (chk ((0 : Int) ≤ x0) <|
   elemD dI_i64 (List.map nI_i64 a0) x0.toNat fun (c1 : Int) =>
   brn (c1 != 0) (some (I c1, []))
   (k_cmp_Or_int_1 a0 (w64 (x0 + 1))))
  (some (I 0, []))) = some y) : k_cmp_Or_int_1 a0 x0 = some y :=
  pt_of zT [] (by kernel_rfl) h

theorem e_cmp_Or_int (a0 : List Int) {y : AV × Mem} (h : (
  k_cmp_Or_int_1 a0 0) = some y) : cw f_cmp_Or_int [AV.sl 1 (List.map nI_i64 a0)] [] = some y :=
  callw_tree R_cmp_Or_int zT [] rfl (by kernel_rfl) (by kernel_rfl) (by kernel_rfl) (by kernel_rfl) (by kernel_rfl) h

theorem e_cmp_Compare_int (a0 : Int) (a1 : Int) {y : AV × Mem} (h : (
  callD r_cmp_isNaN_int (cw f_cmp_isNaN_int [I a0] []) fun (r0 : Bool) =>
  callD r_cmp_isNaN_int (cw f_cmp_isNaN_int [I a1] []) fun (r1 : Bool) =>
  brn r0 (brn r1 (some (I 0, []))
   (some (I (-1), [])))
  (brn r1 (some (I 1, []))
   (brn (decide (a0 < a1)) (some (I (-1), []))
    (brn (decide (a1 < a0)) (some (I 1, []))
     (some (I 0, [])))))) = some y) : cw f_cmp_Compare_int [I a0, I a1] [] = some y :=
  callw_tree R_cmp_Compare_int zT [] rfl (by kernel_rfl) (by kernel_rfl) (by kernel_rfl) (by kernel_rfl) (by kernel_rfl) h

noncomputable def k_marker_Check_1 (a0 : List GMarker) (x0 : Int) : Option (AV × Mem) := pt R_marker_Check 1 ⟨[(0, AV.sl 5 (List.map nGMarker a0)), (8, AV.sl 5 (List.map nGMarker a0)), (9, I ((↑(List.map nGMarker a0).length : Int))), (10, I x0)], []⟩

theorem t_marker_Check_1 (a0 : List GMarker) (x0 : Int) {y : AV × Mem} (h : (
  brn (decide (x0 < (↑(List.map nGMarker a0).length : Int))) (chk ((0 : Int) ≤ x0) <|
   elemD dGMarker (List.map nGMarker a0) x0.toNat fun (c1 : GMarker) =>
   callD r_marker_validMarker (cw f_marker_validMarker [AV.agg (nGMarker c1)] []) fun (r2 : Bool) =>
   brn (!r2) (some (I 2, []))
   (callD r_marker_ascend (cw f_marker_ascend [AV.sl 1 (List.map nI_i64 c1.Papers)] []) fun (r3 : Bool) =>
    brn (!r3) (some (I 43, []))
    (brn (decide (0 < x0)) (chk ((0 : Int) ≤ (w64 (x0 - 1))) <|
      elemD dGMarker (List.map nGMarker a0) ((w64 (x0 - 1)).toNat) fun (c4 : GMarker) =>
      brn (decide (c1.ID ≤ c4.ID)) (some (I 43, []))
      (k_marker_Check_1 a0 (w64 (x0 + 1))))
     (k_marker_Check_1 a0 (w64 (x0 + 1))))))
  (some (I 0, []))) = some y) : k_marker_Check_1 a0 x0 = some y :=
  pt_of zT [] (by kernel_rfl) h

theorem e_marker_Check (a0 : List GMarker) {y : AV × Mem} (h : (
  brn (decide (16 < (↑(List.map nGMarker a0).length : Int))) (some (I 3, []))
  (k_marker_Check_1 a0 0)) = some y) : cw f_marker_Check [AV.sl 5 (List.map nGMarker a0)] [] = some y :=
  callw_tree R_marker_Check zT [] rfl (by kernel_rfl) (by kernel_rfl) (by kernel_rfl) (by kernel_rfl) (by kernel_rfl) h

noncomputable def k_marker_CheckScripts_1 (a0 : List GScript) (x0 : Int) : Option (AV × Mem) := pt R_marker_CheckScripts 1 ⟨[(0, AV.sl 7 (List.map nGScript a0)), (8, AV.sl 7 (List.map nGScript a0)), (9, I ((↑(List.map nGScript a0).length : Int))), (10, I x0)], []⟩

theorem t_marker_CheckScripts_1 (a0 : List GScript) (x0 : Int) {y : AV × Mem} (h : (
  brn (decide (x0 < (↑(List.map nGScript a0).length : Int))) (chk ((0 : Int) ≤ x0) <|
   elemD dGScript (List.map nGScript a0) x0.toNat fun (c1 : GScript) =>
   callD r_marker_isPaper (cw f_marker_isPaper [I c1.Paper] []) fun (r2 : Bool) =>
   brn (!r2) (some (I 2, []))
   (brn (decide (c1.Candidate < 0)) (some (I 2, []))
    (brn (decide (9999 < c1.Candidate)) (some (I 2, []))
     (brn (decide (c1.Centre < 0)) (some (I 2, []))
      (brn (decide (99 < c1.Centre)) (some (I 2, []))
       (brn (decide (c1.Variant < 0)) (some (I 2, []))
        (brn (decide (31 < c1.Variant)) (some (I 2, []))
         (brn (c1.Number != w64 (w64 (c1.Paper * 10000) + c1.Candidate)) (some (I 1, []))
          (brn (decide (12 < (↑(List.map nI_i64 c1.Pages).length : Int))) (some (I 1, []))
           (brn (decide (0 < x0)) (chk ((0 : Int) ≤ (w64 (x0 - 1))) <|
             elemD dGScript (List.map nGScript a0) ((w64 (x0 - 1)).toNat) fun (c3 : GScript) =>
             brn (decide (c1.Number ≤ c3.Number)) (some (I 43, []))
             (k_marker_CheckScripts_1 a0 (w64 (x0 + 1))))
            (k_marker_CheckScripts_1 a0 (w64 (x0 + 1)))))))))))))
  (some (I 0, []))) = some y) : k_marker_CheckScripts_1 a0 x0 = some y :=
  pt_of zT [] (by kernel_rfl) h

theorem e_marker_CheckScripts (a0 : List GScript) {y : AV × Mem} (h : (
  brn (decide (60 < (↑(List.map nGScript a0).length : Int))) (some (I 3, []))
  (k_marker_CheckScripts_1 a0 0)) = some y) : cw f_marker_CheckScripts [AV.sl 7 (List.map nGScript a0)] [] = some y :=
  callw_tree R_marker_CheckScripts zT [] rfl (by kernel_rfl) (by kernel_rfl) (by kernel_rfl) (by kernel_rfl) (by kernel_rfl) h

noncomputable def k_marking_validPapers_1 (a0 : GSetup) (x0 : Int) : Option (AV × Mem) := pt R_marking_validPapers 1 ⟨[(1, AV.loc 1 9 0 0), (19, AV.sl 3 (List.map nGPaper a0.Papers)), (20, I ((↑(List.map nGPaper a0.Papers).length : Int))), (21, I x0)], [(1, ⟨9, ty_api_Setup, [nGSetup a0], true⟩)]⟩

theorem t_marking_validPapers_1 (a0 : GSetup) (x0 : Int) {y : AV × Mem} (h : (
  brn (decide (x0 < (↑(List.map nGPaper a0.Papers).length : Int))) (chk ((0 : Int) ≤ x0) <|
   elemD dGPaper (List.map nGPaper a0.Papers) x0.toNat fun (c1 : GPaper) =>
   chk ((0 : Int) ≤ x0) <|
   elemD dGScheme (List.map nGScheme a0.Schemes) x0.toNat fun (c2 : GScheme) =>
   callD r_scheme_Valid (cw f_scheme_Valid [AV.agg (nGPaper c1), AV.agg (nGScheme c2)] []) fun (r3 : Bool) =>
   brn (!r3) (some (B false, []))
   (k_marking_validPapers_1 a0 (w64 (x0 + 1))))
  (some (B true, []))) = some y) : k_marking_validPapers_1 a0 x0 = some y :=
  pt_of zT [] (by kernel_rfl) h

theorem e_marking_validPapers (a0 : GSetup) {y : AV × Mem} (h : (
  brn (decide (32 < (↑(List.map nGPaper a0.Papers).length : Int))) (some (B false, []))
  (brn ((↑(List.map nGScheme a0.Schemes).length : Int) != (↑(List.map nGPaper a0.Papers).length : Int)) (some (B false, []))
   (k_marking_validPapers_1 a0 0))) = some y) : cw f_marking_validPapers [AV.agg (nGSetup a0)] [] = some y :=
  callw_tree R_marking_validPapers zT [] rfl (by kernel_rfl) (by kernel_rfl) (by kernel_rfl) (by kernel_rfl) (by kernel_rfl) h

noncomputable def k_marking_validScripts_1 (a0 : GSetup) (x0 : Int) : Option (AV × Mem) := pt R_marking_validScripts 1 ⟨[(1, AV.loc 1 9 0 0), (10, AV.sl 7 (List.map nGScript a0.Scripts)), (11, I ((↑(List.map nGScript a0.Scripts).length : Int))), (12, I x0)], [(1, ⟨9, ty_api_Setup, [nGSetup a0], true⟩)]⟩

theorem t_marking_validScripts_1 (a0 : GSetup) (x0 : Int) {y : AV × Mem} (h : (
  brn (decide (x0 < (↑(List.map nGScript a0.Scripts).length : Int))) (chk ((0 : Int) ≤ x0) <|
   elemD dGScript (List.map nGScript a0.Scripts) x0.toNat fun (c1 : GScript) =>
   callD r_marking_paperOf (cw f_marking_paperOf [AV.agg (nGSetup a0), AV.agg (nGScript c1)] []) fun (r2 : Int × Bool) =>
   brn (!r2.snd) (some (B false, []))
   (chk (0 ≤ r2.fst) <|
    elemD dGPaper (List.map nGPaper a0.Papers) (Int.toNat r2.fst) fun (c3 : GPaper) =>
    chk (0 ≤ r2.fst) <|
    elemD dGScheme (List.map nGScheme a0.Schemes) (Int.toNat r2.fst) fun (c4 : GScheme) =>
    callD r_scheme_Closed (cw f_scheme_Closed [AV.agg (nGPaper c3), AV.agg (nGScheme c4), AV.sl 1 (List.map nI_i64 c1.Answers)] []) fun (r5 : (List Int) × Int) =>
    brn (r5.snd != 0) (some (B false, []))
    (k_marking_validScripts_1 a0 (w64 (x0 + 1)))))
  (some (B true, []))) = some y) : k_marking_validScripts_1 a0 x0 = some y :=
  pt_of zT [] (by kernel_rfl) h

theorem e_marking_validScripts (a0 : GSetup) {y : AV × Mem} (h : (
  k_marking_validScripts_1 a0 0) = some y) : cw f_marking_validScripts [AV.agg (nGSetup a0)] [] = some y :=
  callw_tree R_marking_validScripts zT [] rfl (by kernel_rfl) (by kernel_rfl) (by kernel_rfl) (by kernel_rfl) (by kernel_rfl) h

noncomputable def k_marking_validSeeds_1 (a0 : GSetup) (x0 : Int) : Option (AV × Mem) := pt R_marking_validSeeds 1 ⟨[(1, AV.loc 1 9 0 0), (12, AV.sl 2 (List.map nGSeed a0.Seeds)), (13, I ((↑(List.map nGSeed a0.Seeds).length : Int))), (14, I x0)], [(1, ⟨9, ty_api_Setup, [nGSetup a0], true⟩)]⟩

noncomputable def k_marking_validSeeds_1008 (a0 : GSetup) (x0 : Int) (c1 : GSeed) : Option (AV × Mem) := pt R_marking_validSeeds 1008 ⟨[(1, AV.loc 1 9 0 0), (4, AV.loc 4 2 0 0), (12, AV.sl 2 (List.map nGSeed a0.Seeds)), (13, I ((↑(List.map nGSeed a0.Seeds).length : Int))), (14, I x0), (32, B false)], [(1, ⟨9, ty_api_Setup, [nGSetup a0], true⟩), (4, ⟨2, ty_api_Seed, [nGSeed c1], true⟩)]⟩

theorem t_marking_validSeeds_1 (a0 : GSetup) (x0 : Int) {y : AV × Mem} (h : (
  brn (decide (x0 < (↑(List.map nGSeed a0.Seeds).length : Int))) (chk ((0 : Int) ≤ x0) <|
   elemD dGSeed (List.map nGSeed a0.Seeds) x0.toNat fun (c1 : GSeed) =>
   brn (decide (0 < x0)) (chk ((0 : Int) ≤ (w64 (x0 - 1))) <|
    elemD dGSeed (List.map nGSeed a0.Seeds) ((w64 (x0 - 1)).toNat) fun (c2 : GSeed) =>
    brn (decide (c1.Script ≤ c2.Script)) (some (B false, []))
    (k_marking_validSeeds_1008 a0 x0 c1))
   (k_marking_validSeeds_1008 a0 x0 c1))
  (some (B true, []))) = some y) : k_marking_validSeeds_1 a0 x0 = some y :=
  pt_of zT [8] (by kernel_rfl) h

theorem t_marking_validSeeds_1008 (a0 : GSetup) (x0 : Int) (c1 : GSeed) {y : AV × Mem} (h : (
  callD r_marking_PaperOf (cw f_marking_PaperOf [AV.agg (nGSetup a0), I c1.Script] []) fun (r3 : Int × Bool) =>
  brn (!r3.snd) (some (B false, []))
  (chk (0 ≤ r3.fst) <|
   elemD dGPaper (List.map nGPaper a0.Papers) (Int.toNat r3.fst) fun (c4 : GPaper) =>
   callD r_marking_validMarks (cw f_marking_validMarks [AV.agg (nGPaper c4), AV.sl 1 (List.map nI_i64 c1.Marks)] []) fun (r5 : Bool) =>
   brn (!r5) (some (B false, []))
   (k_marking_validSeeds_1 a0 (w64 (x0 + 1))))) = some y) : k_marking_validSeeds_1008 a0 x0 c1 = some y :=
  pt_of zT [8] (by kernel_rfl) h

theorem e_marking_validSeeds (a0 : GSetup) {y : AV × Mem} (h : (
  brn (decide (12 < (↑(List.map nGSeed a0.Seeds).length : Int))) (some (B false, []))
  (k_marking_validSeeds_1 a0 0)) = some y) : cw f_marking_validSeeds [AV.agg (nGSetup a0)] [] = some y :=
  callw_tree R_marking_validSeeds zT [8] rfl (by kernel_rfl) (by kernel_rfl) (by kernel_rfl) (by kernel_rfl) (by kernel_rfl) h

theorem e_monitor_Check (a0 : GMonitorRule) {y : AV × Mem} (h : (
  callD r_monitor_isScore (cw f_monitor_isScore [I a0.Part] []) fun (r0 : Bool) =>
  brn (!r0) (some (I 2, []))
  (callD r_monitor_isScore (cw f_monitor_isScore [I a0.Total] []) fun (r1 : Bool) =>
   brn (!r1) (some (I 2, []))
   (brn (decide (a0.Window < 1)) (some (I 2, []))
    (brn (decide (20 < a0.Window)) (some (I 2, []))
     (brn (decide (a0.Fails < 1)) (some (I 2, []))
      (brn (decide (a0.Window < a0.Fails)) (some (I 2, []))
       (some (I 0, [])))))))) = some y) : cw f_monitor_Check [AV.agg (nGMonitorRule a0)] [] = some y :=
  callw_tree R_monitor_Check zT [] rfl (by kernel_rfl) (by kernel_rfl) (by kernel_rfl) (by kernel_rfl) (by kernel_rfl) h

theorem e_scheme_accepts (a0 : GPart) (a1 : List Int) (a2 : Int) {y : AV × Mem} (h : (
  brn ((↑(List.map nI_i64 a1).length : Int) == 0) (some (B (a2 == a0.Key), []))
  (callD r_slices_Contains_int_int (cw f_slices_Contains_int_int [AV.sl 1 (List.map nI_i64 a1), I a2] []) fun (r0 : Bool) =>
   some (B r0, []))) = some y) : cw f_scheme_accepts [AV.agg (nGPart a0), AV.sl 1 (List.map nI_i64 a1), I a2] [] = some y :=
  callw_tree R_scheme_accepts zT [] rfl (by kernel_rfl) (by kernel_rfl) (by kernel_rfl) (by kernel_rfl) (by kernel_rfl) h

noncomputable def k_ref06_Has_1 (a0 : List Int) (a1 : Int) (x0 : Int) : Option (AV × Mem) := pt R_ref06_Has 1 ⟨[(0, AV.sl 1 (List.map nI_i64 a0)), (1, I a1), (5, I x0)], []⟩

theorem t_ref06_Has_1 (a0 : List Int) (a1 : Int) (x0 : Int) {y : AV × Mem} (h : (
  brn (decide (x0 < (↑(List.map nI_i64 a0).length : Int))) (chk ((0 : Int) ≤ x0) <|
   elemD dI_i64 (List.map nI_i64 a0) x0.toNat fun (c1 : Int) =>
   brn (c1 == a1) (some (B true, []))
   (k_ref06_Has_1 a0 a1 (w64 (x0 + 1))))
  (some (B false, []))) = some y) : k_ref06_Has_1 a0 a1 x0 = some y :=
  pt_of zT [] (by kernel_rfl) h

theorem e_ref06_Has (a0 : List Int) (a1 : Int) {y : AV × Mem} (h : (
  k_ref06_Has_1 a0 a1 0) = some y) : cw f_ref06_Has [AV.sl 1 (List.map nI_i64 a0), I a1] [] = some y :=
  callw_tree R_ref06_Has zT [] rfl (by kernel_rfl) (by kernel_rfl) (by kernel_rfl) (by kernel_rfl) (by kernel_rfl) h

noncomputable def k_item_ValidPaper_1 (a0 : GPaper) (x0 : Int) : Option (AV × Mem) := pt R_item_ValidPaper 1 ⟨[(1, AV.loc 1 3 0 0), (34, AV.sl 6 (List.map nGPart a0.Parts)), (35, I ((↑(List.map nGPart a0.Parts).length : Int))), (36, I x0)], [(1, ⟨3, ty_api_Paper, [nGPaper a0], true⟩)]⟩

theorem t_item_ValidPaper_1 (a0 : GPaper) (x0 : Int) {y : AV × Mem} (h : (
  brn (decide (x0 < (↑(List.map nGPart a0.Parts).length : Int))) (chk ((0 : Int) ≤ x0) <|
   elemD dGPart (List.map nGPart a0.Parts) x0.toNat fun (c1 : GPart) =>
   callD r_item_ValidPart (cw f_item_ValidPart [AV.agg (nGPart c1)] []) fun (r2 : Bool) =>
   brn (!r2) (some (B false, []))
   (k_item_ValidPaper_1 a0 (w64 (x0 + 1))))
  (callD r_item_sumOfMax (cw f_item_sumOfMax [AV.sl 6 (List.map nGPart a0.Parts)] []) fun (r3 : Int) =>
   some (B (decide (r3 ≤ 200)), []))) = some y) : k_item_ValidPaper_1 a0 x0 = some y :=
  pt_of zT [] (by kernel_rfl) h

theorem e_item_ValidPaper (a0 : GPaper) {y : AV × Mem} (h : (
  brn (decide (a0.Code < 0)) (some (B false, []))
  (brn (decide (31 < a0.Code)) (some (B false, []))
   (brn (decide (a0.Variant < 0)) (some (B false, []))
    (brn (decide (4 ≤ a0.Variant)) (some (B false, []))
     (brn (decide ((↑(List.map nGPart a0.Parts).length : Int) < 1)) (some (B false, []))
      (brn (decide (24 < (↑(List.map nGPart a0.Parts).length : Int))) (some (B false, []))
       (k_item_ValidPaper_1 a0 0))))))) = some y) : cw f_item_ValidPaper [AV.agg (nGPaper a0)] [] = some y :=
  callw_tree R_item_ValidPaper zT [] rfl (by kernel_rfl) (by kernel_rfl) (by kernel_rfl) (by kernel_rfl) (by kernel_rfl) h

noncomputable def k_scheme_validKeys_1 (a0 : GPart) (a1 : List Int) (x0 : Int) : Option (AV × Mem) := pt R_scheme_validKeys 1 ⟨[(1, AV.sl 1 (List.map nI_i64 a1)), (2, AV.loc 2 6 0 0), (13, AV.sl 1 (List.map nI_i64 a1)), (14, I ((↑(List.map nI_i64 a1).length : Int))), (15, I x0)], [(2, ⟨6, ty_api_Part, [nGPart a0], true⟩)]⟩

theorem t_scheme_validKeys_1 (a0 : GPart) (a1 : List Int) (x0 : Int) {y : AV × Mem} (h : (
  brn (decide (x0 < (↑(List.map nI_i64 a1).length : Int))) (chk ((0 : Int) ≤ x0) <|
   elemD dI_i64 (List.map nI_i64 a1) x0.toNat fun (c1 : Int) =>
   brn (decide (c1 < 0)) (some (B false, []))
   (brn (decide (a0.Options ≤ c1)) (some (B false, []))
    (brn (decide (0 < x0)) (chk ((0 : Int) ≤ (w64 (x0 - 1))) <|
      elemD dI_i64 (List.map nI_i64 a1) ((w64 (x0 - 1)).toNat) fun (c2 : Int) =>
      brn (decide (c1 ≤ c2)) (some (B false, []))
      (k_scheme_validKeys_1 a0 a1 (w64 (x0 + 1))))
     (k_scheme_validKeys_1 a0 a1 (w64 (x0 + 1))))))
  (some (B true, []))) = some y) : k_scheme_validKeys_1 a0 a1 x0 = some y :=
  pt_of zT [] (by kernel_rfl) h

theorem e_scheme_validKeys (a0 : GPart) (a1 : List Int) {y : AV × Mem} (h : (
  brn (a0.Kind == 1) (some (B ((↑(List.map nI_i64 a1).length : Int) == 0), []))
  (k_scheme_validKeys_1 a0 a1 0)) = some y) : cw f_scheme_validKeys [AV.agg (nGPart a0), AV.sl 1 (List.map nI_i64 a1)] [] = some y :=
  callw_tree R_scheme_validKeys zT [] rfl (by kernel_rfl) (by kernel_rfl) (by kernel_rfl) (by kernel_rfl) (by kernel_rfl) h

theorem e_scheme_isKind (a0 : Int) {y : AV × Mem} (h : (
  brn (a0 == 0) (some (B true, []))
  (brn (a0 == 1) (some (B true, []))
   (brn (a0 == 2) (some (B true, []))
    (some (B false, []))))) = some y) : cw f_scheme_isKind [I a0] [] = some y :=
  callw_tree R_scheme_isKind zT [] rfl (by kernel_rfl) (by kernel_rfl) (by kernel_rfl) (by kernel_rfl) (by kernel_rfl) h

theorem e_scheme_permitted (a0 : GPart) (a1 : Int) {y : AV × Mem} (h : (
  brn (a1 == -1) (some (B true, []))
  (brn (a0.Kind == 2) (brn (a1 == 0) (some (B true, []))
    (some (B (a1 == a0.Max), [])))
   (brn (decide (0 ≤ a1)) (some (B (decide (a1 ≤ a0.Max)), []))
    (some (B false, []))))) = some y) : cw f_scheme_permitted [AV.agg (nGPart a0), I a1] [] = some y :=
  callw_tree R_scheme_permitted zT [] rfl (by kernel_rfl) (by kernel_rfl) (by kernel_rfl) (by kernel_rfl) (by kernel_rfl) h

theorem e_ref06_ValidPart (a0 : GPart) {y : AV × Mem} (h : (
  brn (decide (a0.Max < 1)) (some (B false, []))
  (brn (decide (40 < a0.Max)) (some (B false, []))
   (brn (decide (a0.Topic < 0)) (some (B false, []))
    (brn (decide (16 ≤ a0.Topic)) (some (B false, []))
     (brn (decide (a0.Objective < 0)) (some (B false, []))
      (brn (decide (6 ≤ a0.Objective)) (some (B false, []))
       (brn (a0.Kind == 1) (brn (a0.Options == 0) (some (B (a0.Key == 0), []))
         (some (B false, [])))
        (brn (a0.Kind == 2) (brn (decide (2 ≤ a0.Options)) (brn (decide (a0.Options ≤ 5)) (brn (decide (0 ≤ a0.Key)) (some (B (decide (a0.Key < a0.Options)), []))
            (some (B false, [])))
           (some (B false, [])))
          (some (B false, [])))
         (some (B false, [])))))))))) = some y) : cw f_ref06_ValidPart [AV.agg (nGPart a0)] [] = some y :=
  callw_tree R_ref06_ValidPart zT [] rfl (by kernel_rfl) (by kernel_rfl) (by kernel_rfl) (by kernel_rfl) (by kernel_rfl) h

theorem e_ref02_Valid (a0 : GStamp) {y : AV × Mem} (h : (
  brn (decide (0 ≤ a0.Time)) (brn (decide (a0.Time ≤ 1000000)) (brn (decide (0 ≤ a0.Source)) (brn (decide (a0.Source ≤ 99)) (brn (decide (0 ≤ a0.Seq)) (some (B (decide (a0.Seq ≤ 9999)), []))
      (some (B false, [])))
     (some (B false, [])))
    (some (B false, [])))
   (some (B false, [])))
  (some (B false, []))) = some y) : cw f_ref02_Valid [AV.agg (nGStamp a0)] [] = some y :=
  callw_tree R_ref02_Valid zT [] rfl (by kernel_rfl) (by kernel_rfl) (by kernel_rfl) (by kernel_rfl) (by kernel_rfl) h

theorem e_ref28_in (a0 : Int) (a1 : Int) (a2 : Int) {y : AV × Mem} (h : (
  brn (decide (a1 ≤ a0)) (some (B (decide (a0 ≤ a2)), []))
  (some (B false, []))) = some y) : cw f_ref28_in [I a0, I a1, I a2] [] = some y :=
  callw_tree R_ref28_in zT [] rfl (by kernel_rfl) (by kernel_rfl) (by kernel_rfl) (by kernel_rfl) (by kernel_rfl) h

noncomputable def k_ref27_Good_1 (a0 : GMonitorRule) (a1 : List Int) (a2 : List Int) (x1 : Int) (x2 : Int) : Option (AV × Mem) := pt R_ref27_Good 1 ⟨[(1, AV.sl 1 (List.map nI_i64 a1)), (2, AV.sl 1 (List.map nI_i64 a2)), (3, AV.loc 3 4 0 0), (7, I x1), (8, I x2)], [(3, ⟨4, ty_api_MonitorRule, [nGMonitorRule a0], true⟩)]⟩

theorem t_ref27_Good_1 (a0 : GMonitorRule) (a1 : List Int) (a2 : List Int) (x1 : Int) (x2 : Int) {y : AV × Mem} (h : (
  brn (decide (x2 < (↑(List.map nI_i64 a1).length : Int))) (chk ((0 : Int) ≤ x2) <|
   elemD dI_i64 (List.map nI_i64 a1) x2.toNat fun (c3 : Int) =>
   brn (decide (200 < c3)) (some (B false, []))
   (chk ((0 : Int) ≤ x2) <|
    elemD dI_i64 (List.map nI_i64 a2) x2.toNat fun (c4 : Int) =>
    brn (decide (200 < c4)) (some (B false, []))
    (chk ((0 : Int) ≤ x2) <|
     elemD dI_i64 (List.map nI_i64 a1) x2.toNat fun (c5 : Int) =>
     chk ((0 : Int) ≤ x2) <|
     elemD dI_i64 (List.map nI_i64 a2) x2.toNat fun (c6 : Int) =>
     callD r_ref27_size (cw f_ref27_size [I (w64 ((if 0 > c5 then 0 else c5) - if 0 > c6 then 0 else c6))] []) fun (r7 : Int) =>
     brn (decide (a0.Part < r7)) (some (B false, []))
     (k_ref27_Good_1 a0 a1 a2 (w64 (x1 + w64 ((if 0 > c5 then 0 else c5) - if 0 > c6 then 0 else c6))) (w64 (x2 + 1))))))
  (callD r_ref27_size (cw f_ref27_size [I x1] []) fun (r8 : Int) =>
   some (B (decide (r8 ≤ a0.Total)), []))) = some y) : k_ref27_Good_1 a0 a1 a2 x1 x2 = some y :=
  pt_of zT [] (by kernel_rfl) h

theorem e_ref27_Good (a0 : GMonitorRule) (a1 : List Int) (a2 : List Int) {y : AV × Mem} (h : (
  callD r_ref27_Check (cw f_ref27_Check [AV.agg (nGMonitorRule a0)] []) fun (r0 : Int) =>
  brn (r0 != 0) (some (B false, []))
  (brn ((↑(List.map nI_i64 a1).length : Int) != (↑(List.map nI_i64 a2).length : Int)) (some (B false, []))
   (brn (decide (24 < (↑(List.map nI_i64 a1).length : Int))) (some (B false, []))
    (k_ref27_Good_1 a0 a1 a2 0 0)))) = some y) : cw f_ref27_Good [AV.agg (nGMonitorRule a0), AV.sl 1 (List.map nI_i64 a1), AV.sl 1 (List.map nI_i64 a2)] [] = some y :=
  callw_tree R_ref27_Good zT [] rfl (by kernel_rfl) (by kernel_rfl) (by kernel_rfl) (by kernel_rfl) (by kernel_rfl) h

theorem e_ref27_Valid (a0 : GMonitorRule) (a1 : GWatch) {y : AV × Mem} (h : (
  callD r_ref27_Check (cw f_ref27_Check [AV.agg (nGMonitorRule a0)] []) fun (r0 : Int) =>
  brn (r0 == 0) (brn (decide ((↑(List.map nBool a1.Last).length : Int) ≤ a0.Window)) (callD r_ref27_fails (cw f_ref27_fails [AV.sl 1 (List.map nBool a1.Last)] []) fun (r1 : Int) =>
    some (B (a1.Suspended == decide (a0.Fails ≤ r1)), []))
   (some (B false, [])))
  (some (B false, []))) = some y) : cw f_ref27_Valid [AV.agg (nGMonitorRule a0), AV.agg (nGWatch a1)] [] = some y :=
  callw_tree R_ref27_Valid zT [] rfl (by kernel_rfl) (by kernel_rfl) (by kernel_rfl) (by kernel_rfl) (by kernel_rfl) h

noncomputable def k_ref27_fails_1 (a0 : List Bool) (x0 : Int) (x1 : Int) : Option (AV × Mem) := pt R_ref27_fails 1 ⟨[(0, AV.sl 1 (List.map nBool a0)), (3, I x0), (4, I x1)], []⟩

theorem t_ref27_fails_1 (a0 : List Bool) (x0 : Int) (x1 : Int) {y : AV × Mem} (h : (
  brn (decide (x1 < (↑(List.map nBool a0).length : Int))) (chk ((0 : Int) ≤ x1) <|
   elemD dBool (List.map nBool a0) x1.toNat fun (c2 : Bool) =>
   brn (!c2) (k_ref27_fails_1 a0 (w64 (x0 + 1)) (w64 (x1 + 1)))
   (k_ref27_fails_1 a0 x0 (w64 (x1 + 1))))
  (some (I x0, []))) = some y) : k_ref27_fails_1 a0 x0 x1 = some y :=
  pt_of zT [] (by kernel_rfl) h

theorem e_ref27_fails (a0 : List Bool) {y : AV × Mem} (h : (
  k_ref27_fails_1 a0 0 0) = some y) : cw f_ref27_fails [AV.sl 1 (List.map nBool a0)] [] = some y :=
  callw_tree R_ref27_fails zT [] rfl (by kernel_rfl) (by kernel_rfl) (by kernel_rfl) (by kernel_rfl) (by kernel_rfl) h

theorem e_cmp_isNaN_int (a0 : Int) {y : AV × Mem} (h : (
  some (B (a0 != a0), [])) = some y) : cw f_cmp_isNaN_int [I a0] [] = some y :=
  callw_tree R_cmp_isNaN_int zT [] rfl (by kernel_rfl) (by kernel_rfl) (by kernel_rfl) (by kernel_rfl) (by kernel_rfl) h

theorem e_marker_validMarker (a0 : GMarker) {y : AV × Mem} (h : (
  brn (decide (a0.ID < 1)) (some (B false, []))
  (brn (decide (99 < a0.ID)) (some (B false, []))
   (brn (decide (a0.Centre < -1)) (some (B false, []))
    (brn (decide (99 < a0.Centre)) (some (B false, []))
     (brn (decide (a0.Level < 1)) (some (B false, []))
      (brn (decide (3 < a0.Level)) (some (B false, []))
       (brn (decide (a0.Capacity < 0)) (some (B false, []))
        (brn (decide (60 < a0.Capacity)) (some (B false, []))
         (callD r_slices_ContainsFunc_int_int (cw f_slices_ContainsFunc_int_int [AV.sl 1 (List.map nI_i64 a0.Papers), AV.fn f_marker_validMarker_1 []] []) fun (r0 : Bool) =>
          some (B (!r0), [])))))))))) = some y) : cw f_marker_validMarker [AV.agg (nGMarker a0)] [] = some y :=
  callw_tree R_marker_validMarker zT [] rfl (by kernel_rfl) (by kernel_rfl) (by kernel_rfl) (by kernel_rfl) (by kernel_rfl) h

noncomputable def k_marker_ascend_1 (a0 : List Int) (x0 : Int) : Option (AV × Mem) := pt R_marker_ascend 1 ⟨[(0, AV.sl 1 (List.map nI_i64 a0)), (3, I x0)], []⟩

theorem t_marker_ascend_1 (a0 : List Int) (x0 : Int) {y : AV × Mem} (h : (
  brn (decide (x0 < (↑(List.map nI_i64 a0).length : Int))) (chk ((0 : Int) ≤ (w64 (x0 - 1))) <|
   elemD dI_i64 (List.map nI_i64 a0) ((w64 (x0 - 1)).toNat) fun (c1 : Int) =>
   chk ((0 : Int) ≤ x0) <|
   elemD dI_i64 (List.map nI_i64 a0) x0.toNat fun (c2 : Int) =>
   brn (decide (c2 ≤ c1)) (some (B false, []))
   (k_marker_ascend_1 a0 (w64 (x0 + 1))))
  (some (B true, []))) = some y) : k_marker_ascend_1 a0 x0 = some y :=
  pt_of zT [] (by kernel_rfl) h

theorem e_marker_ascend (a0 : List Int) {y : AV × Mem} (h : (
  k_marker_ascend_1 a0 1) = some y) : cw f_marker_ascend [AV.sl 1 (List.map nI_i64 a0)] [] = some y :=
  callw_tree R_marker_ascend zT [] rfl (by kernel_rfl) (by kernel_rfl) (by kernel_rfl) (by kernel_rfl) (by kernel_rfl) h

theorem e_marker_isPaper (a0 : Int) {y : AV × Mem} (h : (
  brn (decide (0 ≤ a0)) (some (B (decide (a0 ≤ 31)), []))
  (some (B false, []))) = some y) : cw f_marker_isPaper [I a0] [] = some y :=
  callw_tree R_marker_isPaper zT [] rfl (by kernel_rfl) (by kernel_rfl) (by kernel_rfl) (by kernel_rfl) (by kernel_rfl) h

noncomputable def k_marking_validMarks_1 (a0 : GPaper) (a1 : List Int) (x0 : Int) : Option (AV × Mem) := pt R_marking_validMarks 1 ⟨[(1, AV.sl 1 (List.map nI_i64 a1)), (14, AV.sl 6 (List.map nGPart a0.Parts)), (15, I ((↑(List.map nGPart a0.Parts).length : Int))), (16, I x0)], []⟩

theorem t_marking_validMarks_1 (a0 : GPaper) (a1 : List Int) (x0 : Int) {y : AV × Mem} (h : (
  brn (decide (x0 < (↑(List.map nGPart a0.Parts).length : Int))) (chk ((0 : Int) ≤ x0) <|
   elemD dGPart (List.map nGPart a0.Parts) x0.toNat fun (c1 : GPart) =>
   chk ((0 : Int) ≤ x0) <|
   elemD dI_i64 (List.map nI_i64 a1) x0.toNat fun (c2 : Int) =>
   brn (decide (c2 < 0)) (some (B false, []))
   (chk ((0 : Int) ≤ x0) <|
    elemD dI_i64 (List.map nI_i64 a1) x0.toNat fun (c3 : Int) =>
    brn (decide (c1.Max < c3)) (some (B false, []))
    (k_marking_validMarks_1 a0 a1 (w64 (x0 + 1)))))
  (some (B true, []))) = some y) : k_marking_validMarks_1 a0 a1 x0 = some y :=
  pt_of zT [] (by kernel_rfl) h

theorem e_marking_validMarks (a0 : GPaper) (a1 : List Int) {y : AV × Mem} (h : (
  brn ((↑(List.map nI_i64 a1).length : Int) != (↑(List.map nGPart a0.Parts).length : Int)) (some (B false, []))
  (k_marking_validMarks_1 a0 a1 0)) = some y) : cw f_marking_validMarks [AV.agg (nGPaper a0), AV.sl 1 (List.map nI_i64 a1)] [] = some y :=
  callw_tree R_marking_validMarks zT [] rfl (by kernel_rfl) (by kernel_rfl) (by kernel_rfl) (by kernel_rfl) (by kernel_rfl) h

theorem e_monitor_isScore (a0 : Int) {y : AV × Mem} (h : (
  brn (decide (0 ≤ a0)) (some (B (decide (a0 ≤ 200)), []))
  (some (B false, []))) = some y) : cw f_monitor_isScore [I a0] [] = some y :=
  callw_tree R_monitor_isScore zT [] rfl (by kernel_rfl) (by kernel_rfl) (by kernel_rfl) (by kernel_rfl) (by kernel_rfl) h

theorem e_slices_Contains_int_int (a0 : List Int) (a1 : Int) {y : AV × Mem} (h : (
  callD r_slices_Index_int_int (cw f_slices_Index_int_int [AV.sl 1 (List.map nI_i64 a0), I a1] []) fun (r0 : Int) =>
  some (B (decide (0 ≤ r0)), [])) = some y) : cw f_slices_Contains_int_int [AV.sl 1 (List.map nI_i64 a0), I a1] [] = some y :=
  callw_tree R_slices_Contains_int_int zT [] rfl (by kernel_rfl) (by kernel_rfl) (by kernel_rfl) (by kernel_rfl) (by kernel_rfl) h

theorem e_item_ValidPart (a0 : GPart) {y : AV × Mem} (h : (
  brn (decide (a0.Max < 1)) (some (B false, []))
  (brn (decide (40 < a0.Max)) (some (B false, []))
   (brn (decide (a0.Topic < 0)) (some (B false, []))
    (brn (decide (16 ≤ a0.Topic)) (some (B false, []))
     (brn (decide (a0.Objective < 0)) (some (B false, []))
      (brn (decide (6 ≤ a0.Objective)) (some (B false, []))
       (brn (a0.Kind == 1) (brn (a0.Options == 0) (some (B (a0.Key == 0), []))
         (some (B false, [])))
        (brn (a0.Kind == 2) (brn (decide (2 ≤ a0.Options)) (brn (decide (a0.Options ≤ 5)) (brn (decide (0 ≤ a0.Key)) (some (B (decide (a0.Key < a0.Options)), []))
            (some (B false, [])))
           (some (B false, [])))
          (some (B false, [])))
         (some (B false, [])))))))))) = some y) : cw f_item_ValidPart [AV.agg (nGPart a0)] [] = some y :=
  callw_tree R_item_ValidPart zT [] rfl (by kernel_rfl) (by kernel_rfl) (by kernel_rfl) (by kernel_rfl) (by kernel_rfl) h

noncomputable def k_item_sumOfMax_1 (a0 : List GPart) (x0 : Int) (x1 : Int) : Option (AV × Mem) := pt R_item_sumOfMax 1 ⟨[(3, I x0), (6, AV.sl 6 (List.map nGPart a0)), (7, I ((↑(List.map nGPart a0).length : Int))), (8, I x1)], []⟩

theorem t_item_sumOfMax_1 (a0 : List GPart) (x0 : Int) (x1 : Int) {y : AV × Mem} (h : (
  brn (decide (x1 < (↑(List.map nGPart a0).length : Int))) (chk ((0 : Int) ≤ x1) <|
   elemD dGPart (List.map nGPart a0) x1.toNat fun (c2 : GPart) =>
   k_item_sumOfMax_1 a0 (w64 (x0 + c2.Max)) (w64 (x1 + 1)))
  (some (I x0, []))) = some y) : k_item_sumOfMax_1 a0 x0 x1 = some y :=
  pt_of zT [] (by kernel_rfl) h

theorem e_item_sumOfMax (a0 : List GPart) {y : AV × Mem} (h : (
  k_item_sumOfMax_1 a0 0 0) = some y) : cw f_item_sumOfMax [AV.sl 6 (List.map nGPart a0)] [] = some y :=
  callw_tree R_item_sumOfMax zT [] rfl (by kernel_rfl) (by kernel_rfl) (by kernel_rfl) (by kernel_rfl) (by kernel_rfl) h

theorem e_ref27_size (a0 : Int) {y : AV × Mem} (h : (
  brn (decide (a0 < 0)) (some (I (w64 (0 - a0)), []))
  (some (I a0, []))) = some y) : cw f_ref27_size [I a0] [] = some y :=
  callw_tree R_ref27_size zT [] rfl (by kernel_rfl) (by kernel_rfl) (by kernel_rfl) (by kernel_rfl) (by kernel_rfl) h

theorem e_slices_ContainsFunc_int_int (a0 : List Int) {y : AV × Mem} (h : (
  callD r_slices_IndexFunc_int_int (cw f_slices_IndexFunc_int_int [AV.sl 1 (List.map nI_i64 a0), AV.fn f_marker_validMarker_1 []] []) fun (r0 : Int) =>
  some (B (decide (0 ≤ r0)), [])) = some y) : cw f_slices_ContainsFunc_int_int [AV.sl 1 (List.map nI_i64 a0), AV.fn f_marker_validMarker_1 []] [] = some y :=
  callw_tree R_slices_ContainsFunc_int_int zT [] rfl (by kernel_rfl) (by kernel_rfl) (by kernel_rfl) (by kernel_rfl) (by kernel_rfl) h

theorem e_marker_validMarker_1 (a0 : Int) {y : AV × Mem} (h : (
  callD r_marker_isPaper (cw f_marker_isPaper [I a0] []) fun (r0 : Bool) =>
  some (B (!r0), [])) = some y) : cw f_marker_validMarker_1 [I a0] [] = some y :=
  callw_tree R_marker_validMarker_1 zT [] rfl (by kernel_rfl) (by kernel_rfl) (by kernel_rfl) (by kernel_rfl) (by kernel_rfl) h

noncomputable def k_slices_Index_int_int_1 (a0 : List Int) (a1 : Int) (x0 : Int) : Option (AV × Mem) := pt R_slices_Index_int_int 1 ⟨[(0, AV.sl 1 (List.map nI_i64 a0)), (1, I a1), (7, I ((↑(List.map nI_i64 a0).length : Int))), (8, I x0)], []⟩

theorem t_slices_Index_int_int_1 (a0 : List Int) (a1 : Int) (x0 : Int) {y : AV × Mem} (h : (
  brn (decide (x0 < (↑(List.map nI_i64 a0).length : Int))) (chk ((0 : Int) ≤ x0) <|
   elemD dI_i64 (List.map nI_i64 a0) x0.toNat fun (c1 : Int) =>
   brn (a1 == c1) (some (I x0, []))
   (k_slices_Index_int_int_1 a0 a1 (w64 (x0 + 1))))
  (some (I (-1), []))) = some y) : k_slices_Index_int_int_1 a0 a1 x0 = some y :=
  pt_of zT [] (by kernel_rfl) h

theorem e_slices_Index_int_int (a0 : List Int) (a1 : Int) {y : AV × Mem} (h : (
  k_slices_Index_int_int_1 a0 a1 0) = some y) : cw f_slices_Index_int_int [AV.sl 1 (List.map nI_i64 a0), I a1] [] = some y :=
  callw_tree R_slices_Index_int_int zT [] rfl (by kernel_rfl) (by kernel_rfl) (by kernel_rfl) (by kernel_rfl) (by kernel_rfl) h

noncomputable def k_slices_IndexFunc_int_int_1 (a0 : List Int) (x0 : Int) : Option (AV × Mem) := pt R_slices_IndexFunc_int_int 1 ⟨[(0, AV.sl 1 (List.map nI_i64 a0)), (1, AV.fn f_marker_validMarker_1 []), (7, I ((↑(List.map nI_i64 a0).length : Int))), (8, I x0)], []⟩

theorem t_slices_IndexFunc_int_int_1 (a0 : List Int) (x0 : Int) {y : AV × Mem} (h : (
  brn (decide (x0 < (↑(List.map nI_i64 a0).length : Int))) (chk ((0 : Int) ≤ x0) <|
   elemD dI_i64 (List.map nI_i64 a0) x0.toNat fun (c1 : Int) =>
   callD r_marker_validMarker_1 (cw f_marker_validMarker_1 [I c1] []) fun (r2 : Bool) =>
   brn r2 (some (I x0, []))
   (k_slices_IndexFunc_int_int_1 a0 (w64 (x0 + 1))))
  (some (I (-1), []))) = some y) : k_slices_IndexFunc_int_int_1 a0 x0 = some y :=
  pt_of zT [] (by kernel_rfl) h

theorem e_slices_IndexFunc_int_int (a0 : List Int) {y : AV × Mem} (h : (
  k_slices_IndexFunc_int_int_1 a0 0) = some y) : cw f_slices_IndexFunc_int_int [AV.sl 1 (List.map nI_i64 a0), AV.fn f_marker_validMarker_1 []] [] = some y :=
  callw_tree R_slices_IndexFunc_int_int zT [] rfl (by kernel_rfl) (by kernel_rfl) (by kernel_rfl) (by kernel_rfl) (by kernel_rfl) h

end Go.Proofs.YtdhibifcofaioaaGreat
