/- What the functions compute, between two cut points: printed by a program, checked by the kernel. -/
import Derived.Test.YtdhibifcofaioaaGreatAnn
namespace Go.Proofs.YtdhibifcofaioaaGreat
open Go.Ab
set_option maxRecDepth 100000
set_option linter.unusedVariables false

noncomputable def k_arbitration_verdicts_1 (a0 : GMarkRule) (a2 : GMarking) (a3 : GScript) (c1 : GPaper) (c2 : GScheme) (r3 : (List Int) × Int) (r4 : (List Int) × Bool) (x5 : List (List AV)) (x6 : Int) : Option (AV × Mem) := pt R_arbitration_verdicts 1 ⟨[(4, AV.loc 4 2 0 0), (6, AV.loc 6 2 0 0), (7, AV.loc 7 7 0 0), (12, AV.loc 12 2 0 0), (13, AV.sl 1 (List.map nI_i64 r3.fst)), (15, AV.sl 1 (List.map nI_i64 r4.fst)), (16, B r4.snd), (17, AV.row 55 2 0 ((List.replicate (↑(List.map nGPart c1.Parts).length : Int).toNat (AV.v (Go.Value.int IntKind.i64 0) :: AV.v (Go.Value.int IntKind.i64 0) :: List.map AV.v [])).length)), (57, AV.sl 6 (List.map nGPart c1.Parts)), (58, I ((↑(List.map nGPart c1.Parts).length : Int))), (59, I x6)], [(4, ⟨2, ty_api_MarkRule, [nGMarkRule a0], true⟩), (6, ⟨2, ty_api_Marking, [nGMarking a2], true⟩), (7, ⟨7, ty_api_Script, [nGScript a3], true⟩), (12, ⟨2, ty_api_Scheme, [nGScheme c2], true⟩), (55, ⟨2, ty_api_Verdict, x5, false⟩)]⟩

noncomputable def k_arbitration_verdicts_1011 (a0 : GMarkRule) (a2 : GMarking) (a3 : GScript) (c1 : GPaper) (c2 : GScheme) (r3 : (List Int) × Int) (r4 : (List Int) × Bool) (x5 : List (List AV)) (x6 : Int) : Option (AV × Mem) := pt R_arbitration_verdicts 1011 ⟨[(4, AV.loc 4 2 0 0), (6, AV.loc 6 2 0 0), (7, AV.loc 7 7 0 0), (12, AV.loc 12 2 0 0), (13, AV.sl 1 (List.map nI_i64 r3.fst)), (15, AV.sl 1 (List.map nI_i64 r4.fst)), (16, B r4.snd), (17, AV.row 55 2 0 ((List.replicate (↑(List.map nGPart c1.Parts).length : Int).toNat (AV.v (Go.Value.int IntKind.i64 0) :: AV.v (Go.Value.int IntKind.i64 0) :: List.map AV.v [])).length)), (18, I x6), (57, AV.sl 6 (List.map nGPart c1.Parts)), (58, I ((↑(List.map nGPart c1.Parts).length : Int))), (59, I x6), (74, B true)], [(4, ⟨2, ty_api_MarkRule, [nGMarkRule a0], true⟩), (6, ⟨2, ty_api_Marking, [nGMarking a2], true⟩), (7, ⟨7, ty_api_Script, [nGScript a3], true⟩), (12, ⟨2, ty_api_Scheme, [nGScheme c2], true⟩), (55, ⟨2, ty_api_Verdict, x5, false⟩)]⟩

theorem t_arbitration_verdicts_1 (a0 : GMarkRule) (a2 : GMarking) (a3 : GScript) (c1 : GPaper) (c2 : GScheme) (r3 : (List Int) × Int) (r4 : (List Int) × Bool) (x5 : List (List AV)) (x6 : Int) {y : AV × Mem} (h : (
  brn (decide (x6 < (↑(List.map nGPart c1.Parts).length : Int))) (chk ((0 : Int) ≤ x6) <|
   elemD dGPart (List.map nGPart c1.Parts) x6.toNat fun (c7 : GPart) =>
   brn (c7.Kind == 2) (k_arbitration_verdicts_1011 a0 a2 a3 c1 c2 r3 r4 x5 x6)
   (chk ((0 : Int) ≤ x6) <|
    elemD dI_i64 (List.map nI_i64 c2.Withdrawn) x6.toNat fun (c8 : Int) =>
    brn (c8 != 0) (k_arbitration_verdicts_1011 a0 a2 a3 c1 c2 r3 r4 x5 x6)
    (brn r4.snd (chk ((0 : Int) ≤ x6) <|
      elemD dI_i64 (List.map nI_i64 r4.fst) x6.toNat fun (c9 : Int) =>
      chk ((0 : Int) ≤ x6) <|
      chk ((x6 : Int) < ((↑(List.replicate (↑(List.map nGPart c1.Parts).length : Int).toNat (AV.v (Go.Value.int IntKind.i64 0) :: AV.v (Go.Value.int IntKind.i64 0) :: List.map AV.v [])).length : Int))) <|
      elemD dGVerdict x5 (0 + x6.toNat) fun (c10 : GVerdict) =>
      k_arbitration_verdicts_1 a0 a2 a3 c1 c2 r3 r4 (List.set x5 (0 + x6.toNat) (nGVerdict (⟨3, c9⟩))) (w64 (x6 + 1)))
     (callD r_marking_Counting (cw f_marking_Counting [AV.agg (nGMarking a2), I a3.Number, I x6] []) fun (r11 : (List GGiven)) =>
      chk (0 + (List.map nGGiven r11).length ≤ (List.map nGGiven r11).length) <|
      callD r_arbitration_Decide (cw f_arbitration_Decide [AV.agg (nGMarkRule a0), AV.sl 8 (List.take ((List.map nGGiven r11).length) (List.map nGGiven r11))] []) fun (r12 : GVerdict) =>
      chk ((0 : Int) ≤ x6) <|
      chk ((x6 : Int) < ((↑(List.replicate (↑(List.map nGPart c1.Parts).length : Int).toNat (AV.v (Go.Value.int IntKind.i64 0) :: AV.v (Go.Value.int IntKind.i64 0) :: List.map AV.v [])).length : Int))) <|
      elemD dGVerdict x5 (0 + x6.toNat) fun (c13 : GVerdict) =>
      k_arbitration_verdicts_1 a0 a2 a3 c1 c2 r3 r4 (List.set x5 (0 + x6.toNat) (nGVerdict r12)) (w64 (x6 + 1))))))
  (chk ((List.replicate (↑(List.map nGPart c1.Parts).length : Int).toNat (AV.v (Go.Value.int IntKind.i64 0) :: AV.v (Go.Value.int IntKind.i64 0) :: List.map AV.v [])).length = x5.length) <|
   some (AV.new 2 ty_api_Verdict x5, []))) = some y) : k_arbitration_verdicts_1 a0 a2 a3 c1 c2 r3 r4 x5 x6 = some y :=
  pt_of zT [11] (by kernel_rfl) h

theorem t_arbitration_verdicts_1011 (a0 : GMarkRule) (a2 : GMarking) (a3 : GScript) (c1 : GPaper) (c2 : GScheme) (r3 : (List Int) × Int) (r4 : (List Int) × Bool) (x5 : List (List AV)) (x6 : Int) {y : AV × Mem} (h : (
  chk ((0 : Int) ≤ x6) <|
  elemD dI_i64 (List.map nI_i64 r3.fst) x6.toNat fun (c14 : Int) =>
  chk ((0 : Int) ≤ x6) <|
  chk ((x6 : Int) < ((↑(List.replicate (↑(List.map nGPart c1.Parts).length : Int).toNat (AV.v (Go.Value.int IntKind.i64 0) :: AV.v (Go.Value.int IntKind.i64 0) :: List.map AV.v [])).length : Int))) <|
  elemD dGVerdict x5 (0 + x6.toNat) fun (c15 : GVerdict) =>
  k_arbitration_verdicts_1 a0 a2 a3 c1 c2 r3 r4 (List.set x5 (0 + x6.toNat) (nGVerdict (⟨3, if 0 > c14 then 0 else c14⟩))) (w64 (x6 + 1))) = some y) : k_arbitration_verdicts_1011 a0 a2 a3 c1 c2 r3 r4 x5 x6 = some y :=
  pt_of zT [11] (by kernel_rfl) h

theorem e_arbitration_verdicts (a0 : GMarkRule) (a1 : GSetup) (a2 : GMarking) (a3 : GScript) {y : AV × Mem} (h : (
  callD r_marking_PaperOf (cw f_marking_PaperOf [AV.agg (nGSetup a1), I a3.Number] []) fun (r0 : Int × Bool) =>
  chk (0 ≤ r0.fst) <|
  elemD dGPaper (List.map nGPaper a1.Papers) (Int.toNat r0.fst) fun (c1 : GPaper) =>
  chk (0 ≤ r0.fst) <|
  elemD dGScheme (List.map nGScheme a1.Schemes) (Int.toNat r0.fst) fun (c2 : GScheme) =>
  callD r_scheme_Closed (cw f_scheme_Closed [AV.agg (nGPaper c1), AV.agg (nGScheme c2), AV.sl 1 (List.map nI_i64 a3.Answers)] []) fun (r3 : (List Int) × Int) =>
  callD r_arbitration_definitive (cw f_arbitration_definitive [AV.agg (nGSetup a1), I a3.Number] []) fun (r4 : (List Int) × Bool) =>
  chk (((↑(List.map nGPart c1.Parts).length : Int) : Int) = ((↑(List.map nGPart c1.Parts).length : Int))) <|
  chk ((0 : Int) ≤ ((↑(List.map nGPart c1.Parts).length : Int))) <|
  chk ((↑(List.map nGPart c1.Parts).length : Int).toNat * (16 + 1) ≤ 1099511627776) <|
  k_arbitration_verdicts_1 a0 a2 a3 c1 c2 r3 r4 (List.replicate ((↑(List.map nGPart c1.Parts).length : Int).toNat) (nGVerdict (⟨0, 0⟩))) 0) = some y) : cw f_arbitration_verdicts [AV.agg (nGMarkRule a0), AV.agg (nGSetup a1), AV.agg (nGMarking a2), AV.agg (nGScript a3)] [] = some y :=
  callw_tree R_arbitration_verdicts zT [11] rfl (by kernel_rfl) (by kernel_rfl) (by kernel_rfl) (by kernel_rfl) (by kernel_rfl) h

noncomputable def k_ref24_Script_1 (a0 : List GScript) (a1 : Int) (x0 : Int) : Option (AV × Mem) := pt R_ref24_Script 1 ⟨[(0, AV.sl 7 (List.map nGScript a0)), (1, I a1), (4, AV.loc 4 7 0 0), (6, I x0)], [(4, ⟨7, ty_api_Script, [[I 0, I 0, I 0, I 0, I 0, AV.v (.slice none 0 0), AV.v (.slice none 0 0)]], true⟩)]⟩

theorem t_ref24_Script_1 (a0 : List GScript) (a1 : Int) (x0 : Int) {y : AV × Mem} (h : (
  brn (decide (x0 < (↑(List.map nGScript a0).length : Int))) (chk ((0 : Int) ≤ x0) <|
   elemD dGScript (List.map nGScript a0) x0.toNat fun (c1 : GScript) =>
   brn (c1.Number == a1) (chk ((0 : Int) ≤ x0) <|
    elemD dGScript (List.map nGScript a0) x0.toNat fun (c2 : GScript) =>
    some (AV.tup [AV.agg (nGScript c2), B true], []))
   (k_ref24_Script_1 a0 a1 (w64 (x0 + 1))))
  (some (AV.tup [AV.agg (nGScript (⟨0, 0, 0, 0, 0, [], []⟩)), B false], []))) = some y) : k_ref24_Script_1 a0 a1 x0 = some y :=
  pt_of zT [] (by kernel_rfl) h

theorem e_ref24_Script (a0 : List GScript) (a1 : Int) {y : AV × Mem} (h : (
  k_ref24_Script_1 a0 a1 0) = some y) : cw f_ref24_Script [AV.sl 7 (List.map nGScript a0), I a1] [] = some y :=
  callw_tree R_ref24_Script zT [] rfl (by kernel_rfl) (by kernel_rfl) (by kernel_rfl) (by kernel_rfl) (by kernel_rfl) h

noncomputable def k_ref23_Closed_1 (a0 : GPaper) (a1 : GScheme) (a2 : List Int) (x1 : List (List AV)) (x2 : Int) : Option (AV × Mem) := pt R_ref23_Closed 1 ⟨[(2, AV.sl 1 (List.map nI_i64 a2)), (3, AV.loc 3 3 0 0), (4, AV.loc 4 2 0 0), (8, AV.row 8 1 0 (List.length x1)), (9, I x2)], [(3, ⟨3, ty_api_Paper, [nGPaper a0], true⟩), (4, ⟨2, ty_api_Scheme, [nGScheme a1], true⟩), (8, ⟨1, ty_i64_2, x1, false⟩)]⟩

noncomputable def k_ref23_Closed_1016 (a0 : GPaper) (a1 : GScheme) (a2 : List Int) (x1 : List (List AV)) (x2 : Int) (c9 : GPart) : Option (AV × Mem) := pt R_ref23_Closed 1016 ⟨[(2, AV.sl 1 (List.map nI_i64 a2)), (3, AV.loc 3 3 0 0), (4, AV.loc 4 2 0 0), (8, AV.row 8 1 0 (List.length x1)), (9, I x2), (10, I c9.Max)], [(3, ⟨3, ty_api_Paper, [nGPaper a0], true⟩), (4, ⟨2, ty_api_Scheme, [nGScheme a1], true⟩), (8, ⟨1, ty_i64_2, x1, false⟩)]⟩

noncomputable def k_ref23_Closed_1016v1 (a0 : GPaper) (a1 : GScheme) (a2 : List Int) (x1 : List (List AV)) (x2 : Int) : Option (AV × Mem) := pt R_ref23_Closed 1016 ⟨[(2, AV.sl 1 (List.map nI_i64 a2)), (3, AV.loc 3 3 0 0), (4, AV.loc 4 2 0 0), (8, AV.row 8 1 0 (List.length x1)), (9, I x2), (10, I 0), (62, B false)], [(3, ⟨3, ty_api_Paper, [nGPaper a0], true⟩), (4, ⟨2, ty_api_Scheme, [nGScheme a1], true⟩), (8, ⟨1, ty_i64_2, x1, false⟩)]⟩

noncomputable def k_ref23_Closed_1018 (a0 : GPaper) (a1 : GScheme) (a2 : List Int) (x1 : List (List AV)) (x2 : Int) : Option (AV × Mem) := pt R_ref23_Closed 1018 ⟨[(2, AV.sl 1 (List.map nI_i64 a2)), (3, AV.loc 3 3 0 0), (4, AV.loc 4 2 0 0), (8, AV.row 8 1 0 (List.length x1)), (9, I x2), (10, I (-1))], [(3, ⟨3, ty_api_Paper, [nGPaper a0], true⟩), (4, ⟨2, ty_api_Scheme, [nGScheme a1], true⟩), (8, ⟨1, ty_i64_2, x1, false⟩)]⟩

noncomputable def k_ref23_Closed_1018v1 (a0 : GPaper) (a1 : GScheme) (a2 : List Int) (x1 : List (List AV)) (x2 : Int) (x11 : Int) : Option (AV × Mem) := pt R_ref23_Closed 1018 ⟨[(2, AV.sl 1 (List.map nI_i64 a2)), (3, AV.loc 3 3 0 0), (4, AV.loc 4 2 0 0), (8, AV.row 8 1 0 (List.length x1)), (9, I x2), (10, I x11), (73, B false)], [(3, ⟨3, ty_api_Paper, [nGPaper a0], true⟩), (4, ⟨2, ty_api_Scheme, [nGScheme a1], true⟩), (8, ⟨1, ty_i64_2, x1, false⟩)]⟩

theorem t_ref23_Closed_1 (a0 : GPaper) (a1 : GScheme) (a2 : List Int) (x1 : List (List AV)) (x2 : Int) {y : AV × Mem} (h : (
  brn (decide (x2 < (↑(List.map nI_i64 a2).length : Int))) (chk ((0 : Int) ≤ x2) <|
   elemD dGPart (List.map nGPart a0.Parts) x2.toNat fun (c3 : GPart) =>
   brn (c3.Kind == 1) (chk (x1.length = x1.length) <|
    chk ((x1.length + 1) * (8 + 1) ≤ 1099511627776) <|
    chk ((x1 ++ [[AV.v (Go.Value.int IntKind.i64 (-2))]]).length = (x1 ++ [[AV.v (Go.Value.int IntKind.i64 (-2))]]).length) <|
    k_ref23_Closed_1 a0 a1 a2 (x1 ++ ([nI_i64 (-2)])) (w64 (x2 + 1)))
   (chk ((0 : Int) ≤ x2) <|
    elemD dI_i64 (List.map nI_i64 a2) x2.toNat fun (c4 : Int) =>
    brn (decide (c4 < -2)) (some (AV.tup [AV.sl 1 (List.map nI_i64 []), I 2], []))
    (chk ((0 : Int) ≤ x2) <|
     elemD dI_i64 (List.map nI_i64 a2) x2.toNat fun (c5 : Int) =>
     chk ((0 : Int) ≤ x2) <|
     elemD dGPart (List.map nGPart a0.Parts) x2.toNat fun (c6 : GPart) =>
     brn (decide (c6.Options ≤ c5)) (some (AV.tup [AV.sl 1 (List.map nI_i64 []), I 2], []))
     (chk ((0 : Int) ≤ x2) <|
      elemD dI_i64 (List.map nI_i64 a2) x2.toNat fun (c7 : Int) =>
      callD r_ref23_Accepts (cw f_ref23_Accepts [AV.agg (nGPaper a0), AV.agg (nGScheme a1), I x2, I c7] []) fun (r8 : Bool) =>
      brn r8 (chk ((0 : Int) ≤ x2) <|
       elemD dGPart (List.map nGPart a0.Parts) x2.toNat fun (c9 : GPart) =>
       k_ref23_Closed_1016 a0 a1 a2 x1 x2 c9)
      (k_ref23_Closed_1016v1 a0 a1 a2 x1 x2)))))
  (chk (0 + x1.length ≤ x1.length) <|
   some (AV.tup [AV.sl 1 (List.take x1.length x1), I 0], []))) = some y) : k_ref23_Closed_1 a0 a1 a2 x1 x2 = some y :=
  pt_of zT [18, 16] (by kernel_rfl) h

theorem t_ref23_Closed_1016 (a0 : GPaper) (a1 : GScheme) (a2 : List Int) (x1 : List (List AV)) (x2 : Int) (c9 : GPart) {y : AV × Mem} (h : (
  chk ((0 : Int) ≤ x2) <|
  elemD dI_i64 (List.map nI_i64 a2) x2.toNat fun (c10 : Int) =>
  brn (c10 == -1) (k_ref23_Closed_1018 a0 a1 a2 x1 x2)
  (k_ref23_Closed_1018v1 a0 a1 a2 x1 x2 c9.Max)) = some y) : k_ref23_Closed_1016 a0 a1 a2 x1 x2 c9 = some y :=
  pt_of zT [18, 16] (by kernel_rfl) h

theorem t_ref23_Closed_1016v1 (a0 : GPaper) (a1 : GScheme) (a2 : List Int) (x1 : List (List AV)) (x2 : Int) {y : AV × Mem} (h : (
  chk ((0 : Int) ≤ x2) <|
  elemD dI_i64 (List.map nI_i64 a2) x2.toNat fun (c12 : Int) =>
  brn (c12 == -1) (k_ref23_Closed_1018 a0 a1 a2 x1 x2)
  (k_ref23_Closed_1018v1 a0 a1 a2 x1 x2 0)) = some y) : k_ref23_Closed_1016v1 a0 a1 a2 x1 x2 = some y :=
  pt_of zT [18, 16] (by kernel_rfl) h

theorem t_ref23_Closed_1018 (a0 : GPaper) (a1 : GScheme) (a2 : List Int) (x1 : List (List AV)) (x2 : Int) {y : AV × Mem} (h : (
  chk (x1.length = x1.length) <|
  chk ((x1.length + 1) * (8 + 1) ≤ 1099511627776) <|
  chk ((x1 ++ [[AV.v (Go.Value.int IntKind.i64 (-1))]]).length = (x1 ++ [[AV.v (Go.Value.int IntKind.i64 (-1))]]).length) <|
  k_ref23_Closed_1 a0 a1 a2 (x1 ++ ([nI_i64 (-1)])) (w64 (x2 + 1))) = some y) : k_ref23_Closed_1018 a0 a1 a2 x1 x2 = some y :=
  pt_of zT [18, 16] (by kernel_rfl) h

theorem t_ref23_Closed_1018v1 (a0 : GPaper) (a1 : GScheme) (a2 : List Int) (x1 : List (List AV)) (x2 : Int) (x11 : Int) {y : AV × Mem} (h : (
  chk (x1.length = x1.length) <|
  chk ((x1.length + 1) * (8 + 1) ≤ 1099511627776) <|
  chk ((x1 ++ [[AV.v (Go.Value.int IntKind.i64 x11)]]).length = (x1 ++ [[AV.v (Go.Value.int IntKind.i64 x11)]]).length) <|
  k_ref23_Closed_1 a0 a1 a2 (x1 ++ ([nI_i64 x11])) (w64 (x2 + 1))) = some y) : k_ref23_Closed_1018v1 a0 a1 a2 x1 x2 x11 = some y :=
  pt_of zT [18, 16] (by kernel_rfl) h

theorem e_ref23_Closed (a0 : GPaper) (a1 : GScheme) (a2 : List Int) {y : AV × Mem} (h : (
  callD r_ref23_Valid (cw f_ref23_Valid [AV.agg (nGPaper a0), AV.agg (nGScheme a1)] []) fun (r0 : Bool) =>
  brn (!r0) (some (AV.tup [AV.sl 1 (List.map nI_i64 []), I 1], []))
  (brn ((↑(List.map nI_i64 a2).length : Int) != (↑(List.map nGPart a0.Parts).length : Int)) (some (AV.tup [AV.sl 1 (List.map nI_i64 []), I 22], []))
   (k_ref23_Closed_1 a0 a1 a2 [] 0))) = some y) : cw f_ref23_Closed [AV.agg (nGPaper a0), AV.agg (nGScheme a1), AV.sl 1 (List.map nI_i64 a2)] [] = some y :=
  callw_tree R_ref23_Closed zT [18, 16] rfl (by kernel_rfl) (by kernel_rfl) (by kernel_rfl) (by kernel_rfl) (by kernel_rfl) h

theorem e_ref29_Open (a0 : GPaper) (a1 : Int) {y : AV × Mem} (h : (
  brn (decide (0 ≤ a1)) (brn (decide (a1 < (↑(List.map nGPart a0.Parts).length : Int))) (chk ((0 : Int) ≤ a1) <|
    elemD dGPart (List.map nGPart a0.Parts) a1.toNat fun (c0 : GPart) =>
    some (B (c0.Kind == 1), []))
   (some (B false, [])))
  (some (B false, []))) = some y) : cw f_ref29_Open [AV.agg (nGPaper a0), I a1] [] = some y :=
  callw_tree R_ref29_Open zT [] rfl (by kernel_rfl) (by kernel_rfl) (by kernel_rfl) (by kernel_rfl) (by kernel_rfl) h

noncomputable def k_ref29_Counting_1 (a0 : GMarking) (a1 : Int) (a2 : Int) (x0 : List (List AV)) (x1 : Int) : Option (AV × Mem) := pt R_ref29_Counting 1 ⟨[(1, I a1), (2, I a2), (3, AV.loc 3 2 0 0), (7, AV.row 7 8 0 (List.length x0)), (8, I x1)], [(3, ⟨2, ty_api_Marking, [nGMarking a0], true⟩), (7, ⟨8, ty_api_Given, x0, false⟩)]⟩

theorem t_ref29_Counting_1 (a0 : GMarking) (a1 : Int) (a2 : Int) (x0 : List (List AV)) (x1 : Int) {y : AV × Mem} (h : (
  brn (decide (x1 < (↑(List.map nGGiven a0.Given).length : Int))) (chk ((0 : Int) ≤ x1) <|
   elemD dGGiven (List.map nGGiven a0.Given) x1.toNat fun (c2 : GGiven) =>
   brn (c2.Script == a1) (chk ((0 : Int) ≤ x1) <|
    elemD dGGiven (List.map nGGiven a0.Given) x1.toNat fun (c3 : GGiven) =>
    brn (c3.Part == a2) (chk ((0 : Int) ≤ x1) <|
     elemD dGGiven (List.map nGGiven a0.Given) x1.toNat fun (c4 : GGiven) =>
     chk (x0.length = x0.length) <|
     chk ((x0.length + 1) * (64 + 1) ≤ 1099511627776) <|
     chk ((x0 ++ [[AV.v (Go.Value.int IntKind.i64 c4.Script), AV.v (Go.Value.int IntKind.i64 c4.Part), AV.v (Go.Value.int IntKind.i64 c4.Marker), AV.v (Go.Value.int IntKind.i64 c4.Level), AV.v (Go.Value.int IntKind.i64 c4.Value), AV.v (Go.Value.int IntKind.i64 c4.Stamp.Time), AV.v (Go.Value.int IntKind.i64 c4.Stamp.Source), AV.v (Go.Value.int IntKind.i64 c4.Stamp.Seq)]]).length = (x0 ++ [[AV.v (Go.Value.int IntKind.i64 c4.Script), AV.v (Go.Value.int IntKind.i64 c4.Part), AV.v (Go.Value.int IntKind.i64 c4.Marker), AV.v (Go.Value.int IntKind.i64 c4.Level), AV.v (Go.Value.int IntKind.i64 c4.Value), AV.v (Go.Value.int IntKind.i64 c4.Stamp.Time), AV.v (Go.Value.int IntKind.i64 c4.Stamp.Source), AV.v (Go.Value.int IntKind.i64 c4.Stamp.Seq)]]).length) <|
     k_ref29_Counting_1 a0 a1 a2 (x0 ++ ([nGGiven c4])) (w64 (x1 + 1)))
    (k_ref29_Counting_1 a0 a1 a2 x0 (w64 (x1 + 1))))
   (k_ref29_Counting_1 a0 a1 a2 x0 (w64 (x1 + 1))))
  (chk (x0.length = x0.length) <|
   some (AV.new 8 ty_api_Given x0, []))) = some y) : k_ref29_Counting_1 a0 a1 a2 x0 x1 = some y :=
  pt_of zT [] (by kernel_rfl) h

theorem e_ref29_Counting (a0 : GMarking) (a1 : Int) (a2 : Int) {y : AV × Mem} (h : (
  k_ref29_Counting_1 a0 a1 a2 [] 0) = some y) : cw f_ref29_Counting [AV.agg (nGMarking a0), I a1, I a2] [] = some y :=
  callw_tree R_ref29_Counting zT [] rfl (by kernel_rfl) (by kernel_rfl) (by kernel_rfl) (by kernel_rfl) (by kernel_rfl) h

theorem e_marking_PaperOf (a0 : GSetup) (a1 : Int) {y : AV × Mem} (h : (
  callD r_marking_scriptOf (cw f_marking_scriptOf [AV.agg (nGSetup a0), I a1] []) fun (r0 : GScript × Bool) =>
  brn (!r0.snd) (some (AV.tup [I 0, B false], []))
  (callD r_marking_paperOf (cw f_marking_paperOf [AV.agg (nGSetup a0), AV.agg (nGScript r0.fst)] []) fun (r1 : Int × Bool) =>
   some (AV.tup [I r1.fst, B r1.snd], []))) = some y) : cw f_marking_PaperOf [AV.agg (nGSetup a0), I a1] [] = some y :=
  callw_tree R_marking_PaperOf zT [] rfl (by kernel_rfl) (by kernel_rfl) (by kernel_rfl) (by kernel_rfl) (by kernel_rfl) h

theorem e_scheme_Total (a0 : GPaper) (a1 : GScheme) (a2 : List Int) {y : AV × Mem} (h : (
  callD r_scheme_Valid (cw f_scheme_Valid [AV.agg (nGPaper a0), AV.agg (nGScheme a1)] []) fun (r0 : Bool) =>
  brn (!r0) (some (AV.tup [I 0, I 1], []))
  (brn ((↑(List.map nI_i64 a2).length : Int) != (↑(List.map nGPart a0.Parts).length : Int)) (some (AV.tup [I 0, I 22], []))
   (callD r_scheme_Marked (cw f_scheme_Marked [AV.agg (nGPaper a0), AV.agg (nGScheme a1), AV.sl 1 (List.map nI_i64 a2)] []) fun (r1 : Bool) =>
    brn (!r1) (some (AV.tup [I 0, I 8], []))
    (callD r_scheme_sum (cw f_scheme_sum [AV.agg (nGPaper a0), AV.fn f_scheme_Total_1 [AV.fp [AV.sl 1 (List.map nL_I_i64 a1.Keys), AV.sl 1 (List.map nI_i64 a1.Withdrawn)], AV.fp [AV.sl 1 (List.map nI_i64 a2)]]] []) fun (r2 : Int) =>
     some (AV.tup [I r2, I 0], []))))) = some y) : cw f_scheme_Total [AV.agg (nGPaper a0), AV.agg (nGScheme a1), AV.sl 1 (List.map nI_i64 a2)] [] = some y :=
  callw_tree R_scheme_Total zT [] rfl (by kernel_rfl) (by kernel_rfl) (by kernel_rfl) (by kernel_rfl) (by kernel_rfl) h

noncomputable def k_ref23_Total_1 (a0 : GPaper) (a1 : GScheme) (a2 : List Int) (x2 : Int) (x3 : Int) : Option (AV × Mem) := pt R_ref23_Total 1 ⟨[(2, AV.sl 1 (List.map nI_i64 a2)), (3, AV.loc 3 3 0 0), (4, AV.loc 4 2 0 0), (8, I x2), (9, I x3)], [(3, ⟨3, ty_api_Paper, [nGPaper a0], true⟩), (4, ⟨2, ty_api_Scheme, [nGScheme a1], true⟩)]⟩

theorem t_ref23_Total_1 (a0 : GPaper) (a1 : GScheme) (a2 : List Int) (x2 : Int) (x3 : Int) {y : AV × Mem} (h : (
  brn (decide (x3 < (↑(List.map nI_i64 a2).length : Int))) (chk ((0 : Int) ≤ x3) <|
   elemD dI_i64 (List.map nI_i64 a1.Withdrawn) x3.toNat fun (c4 : Int) =>
   brn (c4 == 0) (chk ((0 : Int) ≤ x3) <|
    elemD dI_i64 (List.map nI_i64 a2) x3.toNat fun (c5 : Int) =>
    k_ref23_Total_1 a0 a1 a2 (w64 (x2 + if 0 > c5 then 0 else c5)) (w64 (x3 + 1)))
   (brn (c4 == 1) (chk ((0 : Int) ≤ x3) <|
     elemD dGPart (List.map nGPart a0.Parts) x3.toNat fun (c6 : GPart) =>
     k_ref23_Total_1 a0 a1 a2 (w64 (x2 + c6.Max)) (w64 (x3 + 1)))
    (k_ref23_Total_1 a0 a1 a2 x2 (w64 (x3 + 1)))))
  (some (AV.tup [I x2, I 0], []))) = some y) : k_ref23_Total_1 a0 a1 a2 x2 x3 = some y :=
  pt_of zT [] (by kernel_rfl) h

theorem e_ref23_Total (a0 : GPaper) (a1 : GScheme) (a2 : List Int) {y : AV × Mem} (h : (
  callD r_ref23_Valid (cw f_ref23_Valid [AV.agg (nGPaper a0), AV.agg (nGScheme a1)] []) fun (r0 : Bool) =>
  brn (!r0) (some (AV.tup [I 0, I 1], []))
  (brn ((↑(List.map nI_i64 a2).length : Int) != (↑(List.map nGPart a0.Parts).length : Int)) (some (AV.tup [I 0, I 22], []))
   (callD r_ref23_Marked (cw f_ref23_Marked [AV.agg (nGPaper a0), AV.agg (nGScheme a1), AV.sl 1 (List.map nI_i64 a2)] []) fun (r1 : Bool) =>
    brn (!r1) (some (AV.tup [I 0, I 8], []))
    (k_ref23_Total_1 a0 a1 a2 0 0)))) = some y) : cw f_ref23_Total [AV.agg (nGPaper a0), AV.agg (nGScheme a1), AV.sl 1 (List.map nI_i64 a2)] [] = some y :=
  callw_tree R_ref23_Total zT [] rfl (by kernel_rfl) (by kernel_rfl) (by kernel_rfl) (by kernel_rfl) (by kernel_rfl) h

noncomputable def k_ref26_Paper_1 (a0 : List GPaper) (a1 : GScript) (x0 : Int) : Option (AV × Mem) := pt R_ref26_Paper 1 ⟨[(0, AV.sl 3 (List.map nGPaper a0)), (3, AV.loc 3 7 0 0), (6, I x0)], [(3, ⟨7, ty_api_Script, [nGScript a1], true⟩)]⟩

theorem t_ref26_Paper_1 (a0 : List GPaper) (a1 : GScript) (x0 : Int) {y : AV × Mem} (h : (
  brn (decide (x0 < (↑(List.map nGPaper a0).length : Int))) (chk ((0 : Int) ≤ x0) <|
   elemD dGPaper (List.map nGPaper a0) x0.toNat fun (c1 : GPaper) =>
   brn (c1.Code == a1.Paper) (chk ((0 : Int) ≤ x0) <|
    elemD dGPaper (List.map nGPaper a0) x0.toNat fun (c2 : GPaper) =>
    brn (c2.Variant == a1.Variant) (some (AV.tup [I x0, B true], []))
    (k_ref26_Paper_1 a0 a1 (w64 (x0 + 1))))
   (k_ref26_Paper_1 a0 a1 (w64 (x0 + 1))))
  (some (AV.tup [I 0, B false], []))) = some y) : k_ref26_Paper_1 a0 a1 x0 = some y :=
  pt_of zT [] (by kernel_rfl) h

theorem e_ref26_Paper (a0 : List GPaper) (a1 : GScript) {y : AV × Mem} (h : (
  k_ref26_Paper_1 a0 a1 0) = some y) : cw f_ref26_Paper [AV.sl 3 (List.map nGPaper a0), AV.agg (nGScript a1)] [] = some y :=
  callw_tree R_ref26_Paper zT [] rfl (by kernel_rfl) (by kernel_rfl) (by kernel_rfl) (by kernel_rfl) (by kernel_rfl) h

noncomputable def k_mark_Dice_Paper_1004 (a1 : Int) (a2 : Int) (r0 : Int × GmarkDice) (r2 : Int × GmarkDice) (r3 : Int × GmarkDice) : Option (AV × Mem) := pt R_mark_Dice_Paper 1004 ⟨[(0, AV.loc 1000 2 0 0), (6, AV.loc 6 3 0 0), (7, AV.loc 7 3 0 0)], [(6, ⟨3, ty_api_Paper, [[I 0, I 0, AV.v (.slice none 0 0)]], true⟩), (7, ⟨3, ty_api_Paper, [[I a1, I a2, AV.row 900 6 0 (List.length (([[I 1, I (w64 (3 + r0.fst)), I 0, I 0, I 0, I 0]]) ++ ([[I 2, I (w64 (1 + r2.fst)), I 0, I 0, I 4, I r3.fst]])))]], true⟩), (900, ⟨6, ty_api_Part, ([nGPart (⟨1, w64 (3 + r0.fst), 0, 0, 0, 0⟩)]) ++ ([nGPart (⟨2, w64 (1 + r2.fst), 0, 0, 4, r3.fst⟩)]), false⟩), (1000, ⟨2, ty_mark_Dice, [nGmarkDice r3.snd], true⟩)]⟩

noncomputable def k_mark_Dice_Paper_1004v1 (a1 : Int) (a2 : Int) (r0 : Int × GmarkDice) (r1 : Int × GmarkDice) : Option (AV × Mem) := pt R_mark_Dice_Paper 1004 ⟨[(0, AV.loc 1000 2 0 0), (6, AV.loc 6 3 0 0), (7, AV.loc 7 3 0 0), (18, B false)], [(6, ⟨3, ty_api_Paper, [[I 0, I 0, AV.v (.slice none 0 0)]], true⟩), (7, ⟨3, ty_api_Paper, [[I a1, I a2, AV.row 900 6 0 (List.length ([[I 1, I (w64 (3 + r0.fst)), I 0, I 0, I 0, I 0]]))]], true⟩), (900, ⟨6, ty_api_Part, [nGPart (⟨1, w64 (3 + r0.fst), 0, 0, 0, 0⟩)], false⟩), (1000, ⟨2, ty_mark_Dice, [nGmarkDice r1.snd], true⟩)]⟩

theorem t_mark_Dice_Paper_1004 (a1 : Int) (a2 : Int) (r0 : Int × GmarkDice) (r2 : Int × GmarkDice) (r3 : Int × GmarkDice) {y : AV × Mem} (h : (
  callD r_mark_Dice_Next (cw f_mark_Dice_Next [AV.loc 1000 2 0 0, I 2] [(1000, ⟨2, ty_mark_Dice, [nGmarkDice r3.snd], true⟩)]) fun (r4 : Int × GmarkDice) =>
  brn (decide (0 < r4.fst)) (callD r_mark_Dice_Next (cw f_mark_Dice_Next [AV.loc 1000 2 0 0, I 4] [(1000, ⟨2, ty_mark_Dice, [nGmarkDice r4.snd], true⟩)]) fun (r5 : Int × GmarkDice) =>
   chk (2 = 2) <|
   chk ((2 + 1) * (48 + 1) ≤ 1099511627776) <|
   chk (0 + 3 ≤ 3) <|
   some (AV.agg (nGPaper (⟨a1, a2, [⟨1, w64 (3 + r0.fst), 0, 0, 0, 0⟩, ⟨2, w64 (1 + r2.fst), 0, 0, 4, r3.fst⟩, ⟨1, w64 (2 + r5.fst), 0, 0, 0, 0⟩]⟩)), [(1000, ⟨2, ty_mark_Dice, [nGmarkDice r5.snd], true⟩)]))
  (chk (0 + 2 ≤ 2) <|
   some (AV.agg (nGPaper (⟨a1, a2, [⟨1, w64 (3 + r0.fst), 0, 0, 0, 0⟩, ⟨2, w64 (1 + r2.fst), 0, 0, 4, r3.fst⟩]⟩)), [(1000, ⟨2, ty_mark_Dice, [nGmarkDice r4.snd], true⟩)]))) = some y) : k_mark_Dice_Paper_1004 a1 a2 r0 r2 r3 = some y :=
  pt_of zT [4] (by kernel_rfl) h

theorem t_mark_Dice_Paper_1004v1 (a1 : Int) (a2 : Int) (r0 : Int × GmarkDice) (r1 : Int × GmarkDice) {y : AV × Mem} (h : (
  callD r_mark_Dice_Next (cw f_mark_Dice_Next [AV.loc 1000 2 0 0, I 2] [(1000, ⟨2, ty_mark_Dice, [nGmarkDice r1.snd], true⟩)]) fun (r6 : Int × GmarkDice) =>
  brn (decide (0 < r6.fst)) (callD r_mark_Dice_Next (cw f_mark_Dice_Next [AV.loc 1000 2 0 0, I 4] [(1000, ⟨2, ty_mark_Dice, [nGmarkDice r6.snd], true⟩)]) fun (r7 : Int × GmarkDice) =>
   chk (1 = 1) <|
   chk ((1 + 1) * (48 + 1) ≤ 1099511627776) <|
   chk (0 + 2 ≤ 2) <|
   some (AV.agg (nGPaper (⟨a1, a2, [⟨1, w64 (3 + r0.fst), 0, 0, 0, 0⟩, ⟨1, w64 (2 + r7.fst), 0, 0, 0, 0⟩]⟩)), [(1000, ⟨2, ty_mark_Dice, [nGmarkDice r7.snd], true⟩)]))
  (chk (0 + 1 ≤ 1) <|
   some (AV.agg (nGPaper (⟨a1, a2, [⟨1, w64 (3 + r0.fst), 0, 0, 0, 0⟩]⟩)), [(1000, ⟨2, ty_mark_Dice, [nGmarkDice r6.snd], true⟩)]))) = some y) : k_mark_Dice_Paper_1004v1 a1 a2 r0 r1 = some y :=
  pt_of zT [4] (by kernel_rfl) h

theorem e_mark_Dice_Paper (a0 : GmarkDice) (a1 : Int) (a2 : Int) {y : AV × Mem} (h : (
  callD r_mark_Dice_Next (cw f_mark_Dice_Next [AV.loc 1000 2 0 0, I 4] [(1000, ⟨2, ty_mark_Dice, [nGmarkDice a0], true⟩)]) fun (r0 : Int × GmarkDice) =>
  callD r_mark_Dice_Next (cw f_mark_Dice_Next [AV.loc 1000 2 0 0, I 3] [(1000, ⟨2, ty_mark_Dice, [nGmarkDice r0.snd], true⟩)]) fun (r1 : Int × GmarkDice) =>
  brn (decide (0 < r1.fst)) (callD r_mark_Dice_Next (cw f_mark_Dice_Next [AV.loc 1000 2 0 0, I 2] [(1000, ⟨2, ty_mark_Dice, [nGmarkDice r1.snd], true⟩)]) fun (r2 : Int × GmarkDice) =>
   callD r_mark_Dice_Next (cw f_mark_Dice_Next [AV.loc 1000 2 0 0, I 4] [(1000, ⟨2, ty_mark_Dice, [nGmarkDice r2.snd], true⟩)]) fun (r3 : Int × GmarkDice) =>
   chk (1 = 1) <|
   chk ((1 + 1) * (48 + 1) ≤ 1099511627776) <|
   k_mark_Dice_Paper_1004 a1 a2 r0 r2 r3)
  (k_mark_Dice_Paper_1004v1 a1 a2 r0 r1)) = some y) : cw f_mark_Dice_Paper [AV.loc 1000 2 0 0, I a1, I a2] [(1000, ⟨2, ty_mark_Dice, [nGmarkDice a0], true⟩)] = some y :=
  callw_tree R_mark_Dice_Paper zT [4] rfl (by kernel_rfl) (by kernel_rfl) (by kernel_rfl) (by kernel_rfl) (by kernel_rfl) h

noncomputable def k_mark_Dice_Scheme_1004 (a0 : GmarkDice) (a1 : GPaper) (r1 : Int × GmarkDice) (r2 : Int × GmarkDice) (c3 : Int) : Option (AV × Mem) := pt R_mark_Dice_Scheme 1004 ⟨[(4, AV.loc 4 2 0 0), (5, AV.loc 5 2 0 0)], [(4, ⟨2, ty_api_Scheme, [[AV.v (.slice none 0 0), AV.v (.slice none 0 0)]], true⟩), (5, ⟨2, ty_api_Scheme, [[AV.row 9 1 0 (List.length (List.replicate ((↑(List.map nGPart a1.Parts).length : Int).toNat) ([AV.sl 1 []]))), AV.row 13 1 0 ((List.replicate (↑(List.map nGPart a1.Parts).length : Int).toNat (AV.v (Go.Value.int IntKind.i64 0) :: List.map AV.v [])).length)]], true⟩), (9, ⟨1, ty_L_i64, List.replicate ((↑(List.map nGPart a1.Parts).length : Int).toNat) (nL_I_i64 []), false⟩), (13, ⟨1, ty_i64_2, List.set (List.replicate ((↑(List.map nGPart a1.Parts).length : Int).toNat) (nI_i64 0)) (0 + Int.toNat r1.fst) (nI_i64 (w64 (1 + r2.fst))), false⟩), (1000, ⟨2, ty_mark_Dice, [nGmarkDice r2.snd], true⟩)]⟩

noncomputable def k_mark_Dice_Scheme_1004v1 (a1 : GPaper) (r0 : Bool × GmarkDice) : Option (AV × Mem) := pt R_mark_Dice_Scheme 1004 ⟨[(0, AV.loc 1000 2 0 0), (3, AV.loc 3 3 0 0), (4, AV.loc 4 2 0 0), (5, AV.loc 5 2 0 0), (16, B false)], [(3, ⟨3, ty_api_Paper, [nGPaper a1], true⟩), (4, ⟨2, ty_api_Scheme, [[AV.v (.slice none 0 0), AV.v (.slice none 0 0)]], true⟩), (5, ⟨2, ty_api_Scheme, [[AV.row 9 1 0 (List.length (List.replicate ((↑(List.map nGPart a1.Parts).length : Int).toNat) ([AV.sl 1 []]))), AV.row 13 1 0 (List.length (List.replicate ((↑(List.map nGPart a1.Parts).length : Int).toNat) ([I 0])))]], true⟩), (9, ⟨1, ty_L_i64, List.replicate ((↑(List.map nGPart a1.Parts).length : Int).toNat) (nL_I_i64 []), false⟩), (13, ⟨1, ty_i64_2, List.replicate ((↑(List.map nGPart a1.Parts).length : Int).toNat) (nI_i64 0), false⟩), (1000, ⟨2, ty_mark_Dice, [nGmarkDice r0.snd], true⟩)]⟩

theorem t_mark_Dice_Scheme_1004 (a0 : GmarkDice) (a1 : GPaper) (r1 : Int × GmarkDice) (r2 : Int × GmarkDice) (c3 : Int) {y : AV × Mem} (h : (
  chk (0 + (List.replicate (↑(List.map nGPart a1.Parts).length : Int).toNat (AV.sl 1 [] :: List.map AV.v [])).length ≤ (List.replicate (↑(List.map nGPart a1.Parts).length : Int).toNat (AV.sl 1 [] :: List.map AV.v [])).length) <|
  chk (0 + (List.replicate (↑(List.map nGPart a1.Parts).length : Int).toNat (AV.v (Go.Value.int IntKind.i64 0) :: List.map AV.v [])).length ≤ ((List.replicate (↑(List.map nGPart a1.Parts).length : Int).toNat (AV.v (Go.Value.int IntKind.i64 0) :: List.map AV.v [])).set (0 + Int.toNat r1.fst) [AV.v (Go.Value.int IntKind.i64 (w64 (1 + r2.fst)))]).length) <|
  some (AV.agg [AV.sl 1 (List.take ((List.replicate (↑(List.map nGPart a1.Parts).length : Int).toNat (AV.sl 1 [] :: List.map AV.v [])).length) (List.replicate ((↑(List.map nGPart a1.Parts).length : Int).toNat) ([AV.sl 1 []]))), AV.sl 1 (List.take ((List.replicate (↑(List.map nGPart a1.Parts).length : Int).toNat (AV.v (Go.Value.int IntKind.i64 0) :: List.map AV.v [])).length) (List.set (List.replicate ((↑(List.map nGPart a1.Parts).length : Int).toNat) ([I 0])) (0 + Int.toNat r1.fst) ([I (w64 (1 + r2.fst))])))], [(1000, ⟨2, ty_mark_Dice, [nGmarkDice r2.snd], true⟩)])) = some y) : k_mark_Dice_Scheme_1004 a0 a1 r1 r2 c3 = some y :=
  pt_of zT [4] (by kernel_rfl) h

theorem t_mark_Dice_Scheme_1004v1 (a1 : GPaper) (r0 : Bool × GmarkDice) {y : AV × Mem} (h : (
  chk (0 + (List.replicate (↑(List.map nGPart a1.Parts).length : Int).toNat (AV.sl 1 [] :: List.map AV.v [])).length ≤ (List.replicate (↑(List.map nGPart a1.Parts).length : Int).toNat (AV.sl 1 [] :: List.map AV.v [])).length) <|
  chk (0 + (List.replicate (↑(List.map nGPart a1.Parts).length : Int).toNat (AV.v (Go.Value.int IntKind.i64 0) :: List.map AV.v [])).length ≤ (List.replicate (↑(List.map nGPart a1.Parts).length : Int).toNat (AV.v (Go.Value.int IntKind.i64 0) :: List.map AV.v [])).length) <|
  some (AV.agg [AV.sl 1 (List.take ((List.replicate (↑(List.map nGPart a1.Parts).length : Int).toNat (AV.sl 1 [] :: List.map AV.v [])).length) (List.replicate ((↑(List.map nGPart a1.Parts).length : Int).toNat) ([AV.sl 1 []]))), AV.sl 1 (List.take ((List.replicate (↑(List.map nGPart a1.Parts).length : Int).toNat (AV.v (Go.Value.int IntKind.i64 0) :: List.map AV.v [])).length) (List.replicate ((↑(List.map nGPart a1.Parts).length : Int).toNat) ([I 0])))], [(1000, ⟨2, ty_mark_Dice, [nGmarkDice r0.snd], true⟩)])) = some y) : k_mark_Dice_Scheme_1004v1 a1 r0 = some y :=
  pt_of zT [4] (by kernel_rfl) h

theorem e_mark_Dice_Scheme (a0 : GmarkDice) (a1 : GPaper) {y : AV × Mem} (h : (
  chk (((↑(List.map nGPart a1.Parts).length : Int) : Int) = ((↑(List.map nGPart a1.Parts).length : Int))) <|
  chk ((0 : Int) ≤ ((↑(List.map nGPart a1.Parts).length : Int))) <|
  chk ((↑(List.map nGPart a1.Parts).length : Int).toNat * (24 + 1) ≤ 1099511627776) <|
  chk (((↑(List.map nGPart a1.Parts).length : Int) : Int) = ((↑(List.map nGPart a1.Parts).length : Int))) <|
  chk ((0 : Int) ≤ ((↑(List.map nGPart a1.Parts).length : Int))) <|
  chk ((↑(List.map nGPart a1.Parts).length : Int).toNat * (8 + 1) ≤ 1099511627776) <|
  callD r_mark_Dice_Bool (cw f_mark_Dice_Bool [AV.loc 1000 2 0 0, I 6] [(1000, ⟨2, ty_mark_Dice, [nGmarkDice a0], true⟩)]) fun (r0 : Bool × GmarkDice) =>
  brn r0.fst (callD r_mark_Dice_Next (cw f_mark_Dice_Next [AV.loc 1000 2 0 0, I ((↑(List.map nGPart a1.Parts).length : Int))] [(1000, ⟨2, ty_mark_Dice, [nGmarkDice r0.snd], true⟩)]) fun (r1 : Int × GmarkDice) =>
   callD r_mark_Dice_Next (cw f_mark_Dice_Next [AV.loc 1000 2 0 0, I 2] [(1000, ⟨2, ty_mark_Dice, [nGmarkDice r1.snd], true⟩)]) fun (r2 : Int × GmarkDice) =>
   chk (0 ≤ r1.fst) <|
   chk ((r1.fst : Int) < ((↑(List.replicate (↑(List.map nGPart a1.Parts).length : Int).toNat (AV.v (Go.Value.int IntKind.i64 0) :: List.map AV.v [])).length : Int))) <|
   elemD dI_i64 (List.replicate ((↑(List.map nGPart a1.Parts).length : Int).toNat) (nI_i64 0)) (0 + Int.toNat r1.fst) fun (c3 : Int) =>
   k_mark_Dice_Scheme_1004 a0 a1 r1 r2 c3)
  (k_mark_Dice_Scheme_1004v1 a1 r0)) = some y) : cw f_mark_Dice_Scheme [AV.loc 1000 2 0 0, AV.agg (nGPaper a1)] [(1000, ⟨2, ty_mark_Dice, [nGmarkDice a0], true⟩)] = some y :=
  callw_tree R_mark_Dice_Scheme zT [4] rfl (by kernel_rfl) (by kernel_rfl) (by kernel_rfl) (by kernel_rfl) (by kernel_rfl) h

noncomputable def k_mark_Dice_Script_1 (a0 : GmarkDice) (a1 : GPaper) (a2 : Int) (r0 : Int × GmarkDice) (r1 : Int × GmarkDice) (x2 : List (List AV)) (x3 : GmarkDice) (x4 : Int) : Option (AV × Mem) := pt R_mark_Dice_Script 1 ⟨[(0, AV.loc 1000 2 0 0), (4, AV.loc 4 3 0 0), (6, AV.loc 6 7 0 0), (7, AV.loc 7 7 0 0), (8, I x4)], [(4, ⟨3, ty_api_Paper, [nGPaper a1], true⟩), (6, ⟨7, ty_api_Script, [[I 0, I 0, I 0, I 0, I 0, AV.v (.slice none 0 0), AV.v (.slice none 0 0)]], true⟩), (7, ⟨7, ty_api_Script, [[I (w64 (w64 (a1.Code * 10000) + a2)), I a1.Code, I a2, I (w64 (1 + r0.fst)), I a1.Variant, AV.row 30 1 0 (List.length ([[I (w64 (w64 (100 * a2) + a1.Code))], [I r1.fst]])), AV.row 900 1 0 (List.length x2)]], true⟩), (30, ⟨1, ty_i64_2, [nI_i64 (w64 (w64 (100 * a2) + a1.Code)), nI_i64 r1.fst], false⟩), (900, ⟨1, ty_i64_2, x2, false⟩), (1000, ⟨2, ty_mark_Dice, [nGmarkDice x3], true⟩)]⟩

theorem t_mark_Dice_Script_1 (a0 : GmarkDice) (a1 : GPaper) (a2 : Int) (r0 : Int × GmarkDice) (r1 : Int × GmarkDice) (x2 : List (List AV)) (x3 : GmarkDice) (x4 : Int) {y : AV × Mem} (h : (
  brn (decide (x4 < (↑(List.map nGPart a1.Parts).length : Int))) (chk ((0 : Int) ≤ x4) <|
   elemD dGPart (List.map nGPart a1.Parts) x4.toNat fun (c5 : GPart) =>
   brn (c5.Kind == 2) (chk ((0 : Int) ≤ x4) <|
    elemD dGPart (List.map nGPart a1.Parts) x4.toNat fun (c6 : GPart) =>
    callD r_mark_Dice_Pick (cw f_mark_Dice_Pick [AV.loc 1000 2 0 0, AV.sl 1 (List.map nI_i64 ([c6.Key, 0, 1, -1, -2]))] [(1000, ⟨2, ty_mark_Dice, [nGmarkDice x3], true⟩)]) fun (r7 : Int × GmarkDice) =>
    chk (x2.length = x2.length) <|
    chk ((x2.length + 1) * (8 + 1) ≤ 1099511627776) <|
    k_mark_Dice_Script_1 a0 a1 a2 r0 r1 (x2 ++ ([nI_i64 r7.fst])) r7.snd (w64 (x4 + 1)))
   (chk (x2.length = x2.length) <|
    chk ((x2.length + 1) * (8 + 1) ≤ 1099511627776) <|
    k_mark_Dice_Script_1 a0 a1 a2 r0 r1 (x2 ++ ([nI_i64 (-1)])) x3 (w64 (x4 + 1))))
  (chk (0 + 2 ≤ 2) <|
   chk (0 + x2.length ≤ x2.length) <|
   some (AV.agg [I (w64 (w64 (a1.Code * 10000) + a2)), I a1.Code, I a2, I (w64 (1 + r0.fst)), I a1.Variant, AV.sl 1 (List.take 2 ([[I (w64 (w64 (100 * a2) + a1.Code))], [I r1.fst]])), AV.sl 1 (List.take x2.length x2)], [(1000, ⟨2, ty_mark_Dice, [nGmarkDice x3], true⟩)]))) = some y) : k_mark_Dice_Script_1 a0 a1 a2 r0 r1 x2 x3 x4 = some y :=
  pt_of zT [] (by kernel_rfl) h

theorem e_mark_Dice_Script (a0 : GmarkDice) (a1 : GPaper) (a2 : Int) {y : AV × Mem} (h : (
  callD r_mark_Dice_Next (cw f_mark_Dice_Next [AV.loc 1000 2 0 0, I 3] [(1000, ⟨2, ty_mark_Dice, [nGmarkDice a0], true⟩)]) fun (r0 : Int × GmarkDice) =>
  callD r_mark_Dice_Next (cw f_mark_Dice_Next [AV.loc 1000 2 0 0, I 3] [(1000, ⟨2, ty_mark_Dice, [nGmarkDice r0.snd], true⟩)]) fun (r1 : Int × GmarkDice) =>
  k_mark_Dice_Script_1 a0 a1 a2 r0 r1 [] r1.snd 0) = some y) : cw f_mark_Dice_Script [AV.loc 1000 2 0 0, AV.agg (nGPaper a1), I a2] [(1000, ⟨2, ty_mark_Dice, [nGmarkDice a0], true⟩)] = some y :=
  callw_tree R_mark_Dice_Script zT [] rfl (by kernel_rfl) (by kernel_rfl) (by kernel_rfl) (by kernel_rfl) (by kernel_rfl) h

noncomputable def k_ref24_Check_1 (a0 : List GMarker) (x0 : Int) : Option (AV × Mem) := pt R_ref24_Check 1 ⟨[(0, AV.sl 5 (List.map nGMarker a0)), (3, I x0)], []⟩

noncomputable def k_ref24_Check_2 (a0 : List GMarker) (x0 : Int) (c1 : GMarker) (x6 : Int) : Option (AV × Mem) := pt R_ref24_Check 2 ⟨[(0, AV.sl 5 (List.map nGMarker a0)), (3, I x0), (4, AV.loc 4 5 0 0), (5, I x6)], [(4, ⟨5, ty_api_Marker, [nGMarker c1], true⟩)]⟩

noncomputable def k_ref24_Check_3 (a0 : List GMarker) (x0 : Int) (c1 : GMarker) (x9 : Int) : Option (AV × Mem) := pt R_ref24_Check 3 ⟨[(0, AV.sl 5 (List.map nGMarker a0)), (3, I x0), (4, AV.loc 4 5 0 0), (6, I x9)], [(4, ⟨5, ty_api_Marker, [nGMarker c1], true⟩)]⟩

theorem t_ref24_Check_1 (a0 : List GMarker) (x0 : Int) {y : AV × Mem} (h : (
  brn (decide (x0 < (↑(List.map nGMarker a0).length : Int))) (chk ((0 : Int) ≤ x0) <|
   elemD dGMarker (List.map nGMarker a0) x0.toNat fun (c1 : GMarker) =>
   callD r_ref24_in (cw f_ref24_in [I c1.ID, I 1, I 99] []) fun (r2 : Bool) =>
   brn (!r2) (some (I 2, []))
   (callD r_ref24_in (cw f_ref24_in [I c1.Centre, I (-1), I 99] []) fun (r3 : Bool) =>
    brn (!r3) (some (I 2, []))
    (callD r_ref24_in (cw f_ref24_in [I c1.Level, I 1, I 3] []) fun (r4 : Bool) =>
     brn (!r4) (some (I 2, []))
     (callD r_ref24_in (cw f_ref24_in [I c1.Capacity, I 0, I 60] []) fun (r5 : Bool) =>
      brn (!r5) (some (I 2, []))
      (k_ref24_Check_2 a0 x0 c1 0)))))
  (some (I 0, []))) = some y) : k_ref24_Check_1 a0 x0 = some y :=
  pt_of zT [] (by kernel_rfl) h

theorem t_ref24_Check_2 (a0 : List GMarker) (x0 : Int) (c1 : GMarker) (x6 : Int) {y : AV × Mem} (h : (
  brn (decide (x6 < (↑(List.map nI_i64 c1.Papers).length : Int))) (chk ((0 : Int) ≤ x6) <|
   elemD dI_i64 (List.map nI_i64 c1.Papers) x6.toNat fun (c7 : Int) =>
   callD r_ref24_in (cw f_ref24_in [I c7, I 0, I 31] []) fun (r8 : Bool) =>
   brn (!r8) (some (I 2, []))
   (k_ref24_Check_2 a0 x0 c1 (w64 (x6 + 1))))
  (k_ref24_Check_3 a0 x0 c1 1)) = some y) : k_ref24_Check_2 a0 x0 c1 x6 = some y :=
  pt_of zT [] (by kernel_rfl) h

theorem t_ref24_Check_3 (a0 : List GMarker) (x0 : Int) (c1 : GMarker) (x9 : Int) {y : AV × Mem} (h : (
  brn (decide (x9 < (↑(List.map nI_i64 c1.Papers).length : Int))) (chk ((0 : Int) ≤ x9) <|
   elemD dI_i64 (List.map nI_i64 c1.Papers) x9.toNat fun (c10 : Int) =>
   chk ((0 : Int) ≤ (w64 (x9 - 1))) <|
   elemD dI_i64 (List.map nI_i64 c1.Papers) ((w64 (x9 - 1)).toNat) fun (c11 : Int) =>
   brn (decide (c10 ≤ c11)) (some (I 43, []))
   (k_ref24_Check_3 a0 x0 c1 (w64 (x9 + 1))))
  (brn (decide (0 < x0)) (chk ((0 : Int) ≤ (w64 (x0 - 1))) <|
    elemD dGMarker (List.map nGMarker a0) ((w64 (x0 - 1)).toNat) fun (c12 : GMarker) =>
    brn (decide (c1.ID ≤ c12.ID)) (some (I 43, []))
    (k_ref24_Check_1 a0 (w64 (x0 + 1))))
   (k_ref24_Check_1 a0 (w64 (x0 + 1))))) = some y) : k_ref24_Check_3 a0 x0 c1 x9 = some y :=
  pt_of zT [] (by kernel_rfl) h

theorem e_ref24_Check (a0 : List GMarker) {y : AV × Mem} (h : (
  brn (decide (16 < (↑(List.map nGMarker a0).length : Int))) (some (I 3, []))
  (k_ref24_Check_1 a0 0)) = some y) : cw f_ref24_Check [AV.sl 5 (List.map nGMarker a0)] [] = some y :=
  callw_tree R_ref24_Check zT [] rfl (by kernel_rfl) (by kernel_rfl) (by kernel_rfl) (by kernel_rfl) (by kernel_rfl) h

end Go.Proofs.YtdhibifcofaioaaGreat
