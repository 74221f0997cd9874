/- What the functions compute, between two cut points: printed by a program, checked by the kernel. -/
import Derived.Test.YtdhibifcofaioaaGreatAnn
namespace Go.Proofs.YtdhibifcofaioaaGreat
open Go.Ab
set_option maxRecDepth 100000
set_option linter.unusedVariables false

noncomputable def k_ref29_all_1 (a0 : GSetup) (a1 : List GMarkEvent) (x0 : List (List AV)) (x1 : List (List AV)) (x2 : Int) : Option (AV × Mem) := pt R_ref29_all 1 ⟨[(1, AV.sl 9 (List.map nGMarkEvent a1)), (2, AV.loc 2 9 0 0), (6, AV.row 14 1 0 ((List.replicate (↑(List.map nGMarkEvent a1).length : Int).toNat (AV.v (Go.Value.bool false) :: List.map AV.v [])).length)), (7, AV.row 7 12 0 (List.length x0)), (8, I x2)], [(2, ⟨9, ty_api_Setup, [nGSetup a0], true⟩), (7, ⟨12, ty_api_Suspension, x0, false⟩), (14, ⟨1, ty_bool, x1, false⟩)]⟩

noncomputable def k_ref29_all_2 (a0 : GSetup) (a1 : List GMarkEvent) (x0 : List (List AV)) (x2 : Int) (r4 : (List GSuspension) × (List Bool)) (x5 : List (List AV)) (x6 : Int) : Option (AV × Mem) := pt R_ref29_all 2 ⟨[(1, AV.sl 9 (List.map nGMarkEvent a1)), (2, AV.loc 2 9 0 0), (6, AV.row 14 1 0 ((List.replicate (↑(List.map nGMarkEvent a1).length : Int).toNat (AV.v (Go.Value.bool false) :: List.map AV.v [])).length)), (7, AV.row 7 12 0 (List.length (x0 ++ (List.map nGSuspension r4.fst)))), (8, I x2), (10, AV.sl 1 (List.map nBool r4.snd)), (11, I x6)], [(2, ⟨9, ty_api_Setup, [nGSetup a0], true⟩), (7, ⟨12, ty_api_Suspension, x0 ++ (List.map nGSuspension r4.fst), false⟩), (14, ⟨1, ty_bool, x5, false⟩)]⟩

theorem t_ref29_all_1 (a0 : GSetup) (a1 : List GMarkEvent) (x0 : List (List AV)) (x1 : List (List AV)) (x2 : Int) {y : AV × Mem} (h : (
  brn (decide (x2 < (↑(List.map nGMarker a0.Markers).length : Int))) (chk ((0 : Int) ≤ x2) <|
   elemD dGMarker (List.map nGMarker a0.Markers) x2.toNat fun (c3 : GMarker) =>
   callD r_ref29_watch (cw f_ref29_watch [AV.agg (nGSetup a0), AV.sl 9 (List.map nGMarkEvent a1), I c3.ID] []) fun (r4 : (List GSuspension) × (List Bool)) =>
   chk (x0.length = x0.length) <|
   chk ((x0.length + (List.map nGSuspension r4.fst).length) * (88 + 1) ≤ 1099511627776) <|
   chk ((x0 ++ List.map nGSuspension r4.fst).length = (x0 ++ List.map nGSuspension r4.fst).length) <|
   k_ref29_all_2 a0 a1 x0 x2 r4 x1 0)
  (chk (0 + x0.length ≤ x0.length) <|
   chk (0 + (List.replicate (↑(List.map nGMarkEvent a1).length : Int).toNat (AV.v (Go.Value.bool false) :: List.map AV.v [])).length ≤ x1.length) <|
   some (AV.tup [AV.sl 12 (List.take x0.length x0), AV.sl 1 (List.take ((List.replicate (↑(List.map nGMarkEvent a1).length : Int).toNat (AV.v (Go.Value.bool false) :: List.map AV.v [])).length) x1)], []))) = some y) : k_ref29_all_1 a0 a1 x0 x1 x2 = some y :=
  pt_of zT [] (by kernel_rfl) h

theorem t_ref29_all_2 (a0 : GSetup) (a1 : List GMarkEvent) (x0 : List (List AV)) (x2 : Int) (r4 : (List GSuspension) × (List Bool)) (x5 : List (List AV)) (x6 : Int) {y : AV × Mem} (h : (
  brn (decide (x6 < (↑(List.map nBool r4.snd).length : Int))) (chk ((0 : Int) ≤ x6) <|
   chk ((x6 : Int) < ((↑(List.replicate (↑(List.map nGMarkEvent a1).length : Int).toNat (AV.v (Go.Value.bool false) :: List.map AV.v [])).length : Int))) <|
   elemD dBool x5 (0 + x6.toNat) fun (c7 : Bool) =>
   brn c7 (chk ((0 : Int) ≤ x6) <|
    chk ((x6 : Int) < ((↑(List.replicate (↑(List.map nGMarkEvent a1).length : Int).toNat (AV.v (Go.Value.bool false) :: List.map AV.v [])).length : Int))) <|
    elemD dBool x5 (0 + x6.toNat) fun (c8 : Bool) =>
    k_ref29_all_2 a0 a1 x0 x2 r4 (List.set x5 (0 + x6.toNat) (nBool true)) (w64 (x6 + 1)))
   (chk ((0 : Int) ≤ x6) <|
    elemD dBool (List.map nBool r4.snd) x6.toNat fun (c9 : Bool) =>
    chk ((0 : Int) ≤ x6) <|
    chk ((x6 : Int) < ((↑(List.replicate (↑(List.map nGMarkEvent a1).length : Int).toNat (AV.v (Go.Value.bool false) :: List.map AV.v [])).length : Int))) <|
    elemD dBool x5 (0 + x6.toNat) fun (c10 : Bool) =>
    k_ref29_all_2 a0 a1 x0 x2 r4 (List.set x5 (0 + x6.toNat) (nBool c9)) (w64 (x6 + 1))))
  (k_ref29_all_1 a0 a1 (x0 ++ (List.map nGSuspension r4.fst)) x5 (w64 (x2 + 1)))) = some y) : k_ref29_all_2 a0 a1 x0 x2 r4 x5 x6 = some y :=
  pt_of zT [] (by kernel_rfl) h

theorem e_ref29_all (a0 : GSetup) (a1 : List GMarkEvent) {y : AV × Mem} (h : (
  chk (((↑(List.map nGMarkEvent a1).length : Int) : Int) = ((↑(List.map nGMarkEvent a1).length : Int))) <|
  chk ((0 : Int) ≤ ((↑(List.map nGMarkEvent a1).length : Int))) <|
  chk ((↑(List.map nGMarkEvent a1).length : Int).toNat * (1 + 1) ≤ 1099511627776) <|
  k_ref29_all_1 a0 a1 [] (List.replicate ((↑(List.map nGMarkEvent a1).length : Int).toNat) (nBool false)) 0) = some y) : cw f_ref29_all [AV.agg (nGSetup a0), AV.sl 9 (List.map nGMarkEvent a1)] [] = some y :=
  callw_tree R_ref29_all zT [] rfl (by kernel_rfl) (by kernel_rfl) (by kernel_rfl) (by kernel_rfl) (by kernel_rfl) h

noncomputable def k_ref26_Definitive_1 (a0 : List GSeed) (a1 : Int) (x0 : Int) : Option (AV × Mem) := pt R_ref26_Definitive 1 ⟨[(0, AV.sl 2 (List.map nGSeed a0)), (1, I a1), (6, I x0)], []⟩

theorem t_ref26_Definitive_1 (a0 : List GSeed) (a1 : Int) (x0 : Int) {y : AV × Mem} (h : (
  brn (decide (x0 < (↑(List.map nGSeed a0).length : Int))) (chk ((0 : Int) ≤ x0) <|
   elemD dGSeed (List.map nGSeed a0) x0.toNat fun (c1 : GSeed) =>
   brn (c1.Script == a1) (chk ((0 : Int) ≤ x0) <|
    elemD dGSeed (List.map nGSeed a0) x0.toNat fun (c2 : GSeed) =>
    chk ((List.map nI_i64 c2.Marks).length * (8 + 1) ≤ 1099511627776) <|
    chk ((List.map nI_i64 c2.Marks).length = (List.map nI_i64 c2.Marks).length) <|
    chk (0 + (List.map nI_i64 c2.Marks).length ≤ (List.map nI_i64 c2.Marks).length) <|
    some (AV.tup [AV.sl 1 (List.take ((List.map nI_i64 c2.Marks).length) (List.map nI_i64 c2.Marks)), B true], []))
   (k_ref26_Definitive_1 a0 a1 (w64 (x0 + 1))))
  (chk (0 + 0 ≤ 0) <|
   some (AV.tup [AV.sl 1 (List.map nI_i64 []), B false], []))) = some y) : k_ref26_Definitive_1 a0 a1 x0 = some y :=
  pt_of zT [] (by kernel_rfl) h

theorem e_ref26_Definitive (a0 : List GSeed) (a1 : Int) {y : AV × Mem} (h : (
  k_ref26_Definitive_1 a0 a1 0) = some y) : cw f_ref26_Definitive [AV.sl 2 (List.map nGSeed a0), I a1] [] = some y :=
  callw_tree R_ref26_Definitive zT [] rfl (by kernel_rfl) (by kernel_rfl) (by kernel_rfl) (by kernel_rfl) (by kernel_rfl) h

theorem e_ref29_Fits (a0 : GSetup) (a1 : GMarkEvent) {y : AV × Mem} (h : (
  callD r_ref24_Script (cw f_ref24_Script [AV.sl 7 (List.map nGScript a0.Scripts), I a1.Script] []) fun (r0 : GScript × Bool) =>
  brn (!r0.snd) (some (B false, []))
  (brn (a1.Kind != 0) (some (B false, []))
   (callD r_ref24_Eligible (cw f_ref24_Eligible [AV.sl 5 (List.map nGMarker a0.Markers), I a1.Stamp.Source, AV.agg (nGScript r0.fst)] []) fun (r1 : Bool) =>
    brn (!r1) (some (B false, []))
    (callD r_ref26_Paper (cw f_ref26_Paper [AV.sl 3 (List.map nGPaper a0.Papers), AV.agg (nGScript r0.fst)] []) fun (r2 : Int × Bool) =>
     chk (0 ≤ r2.fst) <|
     elemD dGPaper (List.map nGPaper a0.Papers) (Int.toNat r2.fst) fun (c3 : GPaper) =>
     callD r_ref29_Open (cw f_ref29_Open [AV.agg (nGPaper c3), I a1.Part] []) fun (r4 : Bool) =>
     brn r4 (brn (a1.Value == -1) (callD r_ref28_SamePages (cw f_ref28_SamePages [AV.sl 1 (List.map nI_i64 a1.Pages), AV.sl 1 (List.map nI_i64 r0.fst.Pages)] []) fun (r5 : Bool) =>
       some (B r5, []))
      (chk (0 ≤ r2.fst) <|
       elemD dGPaper (List.map nGPaper a0.Papers) (Int.toNat r2.fst) fun (c6 : GPaper) =>
       chk (0 ≤ r2.fst) <|
       elemD dGScheme (List.map nGScheme a0.Schemes) (Int.toNat r2.fst) fun (c7 : GScheme) =>
       callD r_ref23_Permitted (cw f_ref23_Permitted [AV.agg (nGPaper c6), AV.agg (nGScheme c7), I a1.Part, I a1.Value] []) fun (r8 : Bool) =>
       brn r8 (callD r_ref28_SamePages (cw f_ref28_SamePages [AV.sl 1 (List.map nI_i64 a1.Pages), AV.sl 1 (List.map nI_i64 r0.fst.Pages)] []) fun (r9 : Bool) =>
        some (B r9, []))
       (some (B false, []))))
     (some (B false, [])))))) = some y) : cw f_ref29_Fits [AV.agg (nGSetup a0), AV.agg (nGMarkEvent a1)] [] = some y :=
  callw_tree R_ref29_Fits zT [] rfl (by kernel_rfl) (by kernel_rfl) (by kernel_rfl) (by kernel_rfl) (by kernel_rfl) h

noncomputable def k_ref29_stopped_1 (a1 : List GMarkEvent) (a2 : Int) (r1 : GMarker × Bool) (x2 : Int) : Option (AV × Mem) := pt R_ref29_stopped 1 ⟨[(1, AV.sl 9 (List.map nGMarkEvent a1)), (2, I a2), (7, AV.loc 7 5 0 0), (9, I x2)], [(7, ⟨5, ty_api_Marker, [nGMarker r1.fst], true⟩)]⟩

theorem t_ref29_stopped_1 (a1 : List GMarkEvent) (a2 : Int) (r1 : GMarker × Bool) (x2 : Int) {y : AV × Mem} (h : (
  brn (decide (x2 < (↑(List.map nGMarkEvent a1).length : Int))) (brn (r1.fst.Level == 1) (chk ((0 : Int) ≤ x2) <|
    elemD dGMarkEvent (List.map nGMarkEvent a1) x2.toNat fun (c3 : GMarkEvent) =>
    brn (c3.Kind == 2) (chk ((0 : Int) ≤ x2) <|
     elemD dGMarkEvent (List.map nGMarkEvent a1) x2.toNat fun (c4 : GMarkEvent) =>
     chk ((0 : Int) ≤ a2) <|
     elemD dGMarkEvent (List.map nGMarkEvent a1) a2.toNat fun (c5 : GMarkEvent) =>
     brn (c4.Script == c5.Script) (chk ((0 : Int) ≤ x2) <|
      elemD dGMarkEvent (List.map nGMarkEvent a1) x2.toNat fun (c6 : GMarkEvent) =>
      brn (c6.Part == -1) (some (B true, []))
      (chk ((0 : Int) ≤ x2) <|
       elemD dGMarkEvent (List.map nGMarkEvent a1) x2.toNat fun (c7 : GMarkEvent) =>
       chk ((0 : Int) ≤ a2) <|
       elemD dGMarkEvent (List.map nGMarkEvent a1) a2.toNat fun (c8 : GMarkEvent) =>
       brn (c7.Part == c8.Part) (some (B true, []))
       (k_ref29_stopped_1 a1 a2 r1 (w64 (x2 + 1)))))
     (k_ref29_stopped_1 a1 a2 r1 (w64 (x2 + 1))))
    (k_ref29_stopped_1 a1 a2 r1 (w64 (x2 + 1))))
   (k_ref29_stopped_1 a1 a2 r1 (w64 (x2 + 1))))
  (some (B false, []))) = some y) : k_ref29_stopped_1 a1 a2 r1 x2 = some y :=
  pt_of zT [] (by kernel_rfl) h

theorem e_ref29_stopped (a0 : GSetup) (a1 : List GMarkEvent) (a2 : Int) {y : AV × Mem} (h : (
  chk ((0 : Int) ≤ a2) <|
  elemD dGMarkEvent (List.map nGMarkEvent a1) a2.toNat fun (c0 : GMarkEvent) =>
  callD r_ref24_Find (cw f_ref24_Find [AV.sl 5 (List.map nGMarker a0.Markers), I c0.Stamp.Source] []) fun (r1 : GMarker × Bool) =>
  k_ref29_stopped_1 a1 a2 r1 (w64 (a2 + 1))) = some y) : cw f_ref29_stopped [AV.agg (nGSetup a0), AV.sl 9 (List.map nGMarkEvent a1), I a2] [] = some y :=
  callw_tree R_ref29_stopped zT [] rfl (by kernel_rfl) (by kernel_rfl) (by kernel_rfl) (by kernel_rfl) (by kernel_rfl) h

noncomputable def k_ref24_Find_1 (a0 : List GMarker) (a1 : Int) (x0 : Int) : Option (AV × Mem) := pt R_ref24_Find 1 ⟨[(0, AV.sl 5 (List.map nGMarker a0)), (1, I a1), (4, AV.loc 4 5 0 0), (6, I x0)], [(4, ⟨5, ty_api_Marker, [[I 0, I 0, I 0, I 0, AV.v (.slice none 0 0)]], true⟩)]⟩

theorem t_ref24_Find_1 (a0 : List GMarker) (a1 : Int) (x0 : Int) {y : AV × Mem} (h : (
  brn (decide (x0 < (↑(List.map nGMarker a0).length : Int))) (chk ((0 : Int) ≤ x0) <|
   elemD dGMarker (List.map nGMarker a0) x0.toNat fun (c1 : GMarker) =>
   brn (c1.ID == a1) (chk ((0 : Int) ≤ x0) <|
    elemD dGMarker (List.map nGMarker a0) x0.toNat fun (c2 : GMarker) =>
    some (AV.tup [AV.agg (nGMarker c2), B true], []))
   (k_ref24_Find_1 a0 a1 (w64 (x0 + 1))))
  (some (AV.tup [AV.agg (nGMarker (⟨0, 0, 0, 0, []⟩)), B false], []))) = some y) : k_ref24_Find_1 a0 a1 x0 = some y :=
  pt_of zT [] (by kernel_rfl) h

theorem e_ref24_Find (a0 : List GMarker) (a1 : Int) {y : AV × Mem} (h : (
  k_ref24_Find_1 a0 a1 0) = some y) : cw f_ref24_Find [AV.sl 5 (List.map nGMarker a0), I a1] [] = some y :=
  callw_tree R_ref24_Find zT [] rfl (by kernel_rfl) (by kernel_rfl) (by kernel_rfl) (by kernel_rfl) (by kernel_rfl) h

noncomputable def k_ref29_put_1 (a0 : List GGiven) (a1 : GGiven) (x0 : Int) : Option (AV × Mem) := pt R_ref29_put 1 ⟨[(0, AV.row 950 8 0 (List.length (List.map nGGiven a0))), (3, AV.loc 3 8 0 0), (5, I x0)], [(3, ⟨8, ty_api_Given, [nGGiven a1], true⟩), (950, ⟨8, ty_api_Given, List.map nGGiven a0, false⟩)]⟩

noncomputable def k_ref29_put_1004 (a0 : List GGiven) (a1 : GGiven) (x0 : Int) : Option (AV × Mem) := pt R_ref29_put 1004 ⟨[(0, AV.row 950 8 0 (List.length (List.map nGGiven a0))), (3, AV.loc 3 8 0 0), (5, I x0), (18, B false)], [(3, ⟨8, ty_api_Given, [nGGiven a1], true⟩), (950, ⟨8, ty_api_Given, List.map nGGiven a0, false⟩)]⟩

noncomputable def k_ref29_put_1007 (a0 : List GGiven) (a1 : GGiven) (x0 : Int) : Option (AV × Mem) := pt R_ref29_put 1007 ⟨[(0, AV.row 950 8 0 (List.length (List.map nGGiven a0))), (3, AV.loc 3 8 0 0), (5, I x0), (32, B false)], [(3, ⟨8, ty_api_Given, [nGGiven a1], true⟩), (950, ⟨8, ty_api_Given, List.map nGGiven a0, false⟩)]⟩

theorem t_ref29_put_1 (a0 : List GGiven) (a1 : GGiven) (x0 : Int) {y : AV × Mem} (h : (
  brn (decide (0 < x0)) (chk ((0 : Int) ≤ (w64 (x0 - 1))) <|
   chk ((w64 (x0 - 1) : Int) < ((↑(List.map nGGiven a0).length : Int))) <|
   elemD dGGiven (List.map nGGiven a0) (0 + (w64 (x0 - 1)).toNat) fun (c1 : GGiven) =>
   callD r_ref29_less (cw f_ref29_less [AV.agg (nGGiven a1), AV.agg (nGGiven c1)] []) fun (r2 : Bool) =>
   brn r2 (k_ref29_put_1 a0 a1 (w64 (x0 - 1)))
   (k_ref29_put_1004 a0 a1 x0))
  (k_ref29_put_1004 a0 a1 x0)) = some y) : k_ref29_put_1 a0 a1 x0 = some y :=
  pt_of zT [7, 4] (by kernel_rfl) h

theorem t_ref29_put_1004 (a0 : List GGiven) (a1 : GGiven) (x0 : Int) {y : AV × Mem} (h : (
  brn (decide (0 < x0)) (chk ((0 : Int) ≤ (w64 (x0 - 1))) <|
   chk ((w64 (x0 - 1) : Int) < ((↑(List.map nGGiven a0).length : Int))) <|
   elemD dGGiven (List.map nGGiven a0) (0 + (w64 (x0 - 1)).toNat) fun (c3 : GGiven) =>
   callD r_ref29_less (cw f_ref29_less [AV.agg (nGGiven c3), AV.agg (nGGiven a1)] []) fun (r4 : Bool) =>
   brn (!r4) (chk ((0 : Int) ≤ (w64 (x0 - 1))) <|
    chk ((w64 (x0 - 1) : Int) < ((↑(List.map nGGiven a0).length : Int))) <|
    elemD dGGiven (List.map nGGiven a0) (0 + (w64 (x0 - 1)).toNat) fun (c5 : GGiven) =>
    chk ((List.map nGGiven a0).length = ((List.map nGGiven a0).set (0 + (w64 (x0 - 1)).toNat) [AV.v (Go.Value.int IntKind.i64 a1.Script), AV.v (Go.Value.int IntKind.i64 a1.Part), AV.v (Go.Value.int IntKind.i64 a1.Marker), AV.v (Go.Value.int IntKind.i64 a1.Level), AV.v (Go.Value.int IntKind.i64 a1.Value), AV.v (Go.Value.int IntKind.i64 a1.Stamp.Time), AV.v (Go.Value.int IntKind.i64 a1.Stamp.Source), AV.v (Go.Value.int IntKind.i64 a1.Stamp.Seq)]).length) <|
    some (AV.new 8 ty_api_Given (List.set (List.map nGGiven a0) (0 + (w64 (x0 - 1)).toNat) (nGGiven a1)), []))
   (k_ref29_put_1007 a0 a1 x0))
  (k_ref29_put_1007 a0 a1 x0)) = some y) : k_ref29_put_1004 a0 a1 x0 = some y :=
  pt_of zT [7, 4] (by kernel_rfl) h

theorem t_ref29_put_1007 (a0 : List GGiven) (a1 : GGiven) (x0 : Int) {y : AV × Mem} (h : (
  chk ((List.map nGGiven a0).length = (List.map nGGiven a0).length) <|
  chk (((List.map nGGiven a0).length + 1) * (64 + 1) ≤ 1099511627776) <|
  chk ((List.map nGGiven a0 ++ [[AV.v (Go.Value.int IntKind.i64 a1.Script), AV.v (Go.Value.int IntKind.i64 a1.Part), AV.v (Go.Value.int IntKind.i64 a1.Marker), AV.v (Go.Value.int IntKind.i64 a1.Level), AV.v (Go.Value.int IntKind.i64 a1.Value), AV.v (Go.Value.int IntKind.i64 a1.Stamp.Time), AV.v (Go.Value.int IntKind.i64 a1.Stamp.Source), AV.v (Go.Value.int IntKind.i64 a1.Stamp.Seq)]]).length = (List.map nGGiven a0 ++ [[AV.v (Go.Value.int IntKind.i64 a1.Script), AV.v (Go.Value.int IntKind.i64 a1.Part), AV.v (Go.Value.int IntKind.i64 a1.Marker), AV.v (Go.Value.int IntKind.i64 a1.Level), AV.v (Go.Value.int IntKind.i64 a1.Value), AV.v (Go.Value.int IntKind.i64 a1.Stamp.Time), AV.v (Go.Value.int IntKind.i64 a1.Stamp.Source), AV.v (Go.Value.int IntKind.i64 a1.Stamp.Seq)]]).length) <|
  chk ((0 : Int) ≤ (w64 (x0 + 1))) <|
  chk ((w64 (x0 + 1)).toNat ≤ (List.map nGGiven a0 ++ [[AV.v (Go.Value.int IntKind.i64 a1.Script), AV.v (Go.Value.int IntKind.i64 a1.Part), AV.v (Go.Value.int IntKind.i64 a1.Marker), AV.v (Go.Value.int IntKind.i64 a1.Level), AV.v (Go.Value.int IntKind.i64 a1.Value), AV.v (Go.Value.int IntKind.i64 a1.Stamp.Time), AV.v (Go.Value.int IntKind.i64 a1.Stamp.Source), AV.v (Go.Value.int IntKind.i64 a1.Stamp.Seq)]]).length) <|
  chk ((List.map nGGiven a0 ++ [[AV.v (Go.Value.int IntKind.i64 a1.Script), AV.v (Go.Value.int IntKind.i64 a1.Part), AV.v (Go.Value.int IntKind.i64 a1.Marker), AV.v (Go.Value.int IntKind.i64 a1.Level), AV.v (Go.Value.int IntKind.i64 a1.Value), AV.v (Go.Value.int IntKind.i64 a1.Stamp.Time), AV.v (Go.Value.int IntKind.i64 a1.Stamp.Source), AV.v (Go.Value.int IntKind.i64 a1.Stamp.Seq)]]).length ≤ (List.map nGGiven a0 ++ [[AV.v (Go.Value.int IntKind.i64 a1.Script), AV.v (Go.Value.int IntKind.i64 a1.Part), AV.v (Go.Value.int IntKind.i64 a1.Marker), AV.v (Go.Value.int IntKind.i64 a1.Level), AV.v (Go.Value.int IntKind.i64 a1.Value), AV.v (Go.Value.int IntKind.i64 a1.Stamp.Time), AV.v (Go.Value.int IntKind.i64 a1.Stamp.Source), AV.v (Go.Value.int IntKind.i64 a1.Stamp.Seq)]]).length) <|
  chk ((0 : Int) ≤ x0) <|
  chk (x0.toNat ≤ (List.map nGGiven a0 ++ [[AV.v (Go.Value.int IntKind.i64 a1.Script), AV.v (Go.Value.int IntKind.i64 a1.Part), AV.v (Go.Value.int IntKind.i64 a1.Marker), AV.v (Go.Value.int IntKind.i64 a1.Level), AV.v (Go.Value.int IntKind.i64 a1.Value), AV.v (Go.Value.int IntKind.i64 a1.Stamp.Time), AV.v (Go.Value.int IntKind.i64 a1.Stamp.Source), AV.v (Go.Value.int IntKind.i64 a1.Stamp.Seq)]]).length) <|
  chk ((List.map nGGiven a0 ++ [[AV.v (Go.Value.int IntKind.i64 a1.Script), AV.v (Go.Value.int IntKind.i64 a1.Part), AV.v (Go.Value.int IntKind.i64 a1.Marker), AV.v (Go.Value.int IntKind.i64 a1.Level), AV.v (Go.Value.int IntKind.i64 a1.Value), AV.v (Go.Value.int IntKind.i64 a1.Stamp.Time), AV.v (Go.Value.int IntKind.i64 a1.Stamp.Source), AV.v (Go.Value.int IntKind.i64 a1.Stamp.Seq)]]).length ≤ (List.map nGGiven a0 ++ [[AV.v (Go.Value.int IntKind.i64 a1.Script), AV.v (Go.Value.int IntKind.i64 a1.Part), AV.v (Go.Value.int IntKind.i64 a1.Marker), AV.v (Go.Value.int IntKind.i64 a1.Level), AV.v (Go.Value.int IntKind.i64 a1.Value), AV.v (Go.Value.int IntKind.i64 a1.Stamp.Time), AV.v (Go.Value.int IntKind.i64 a1.Stamp.Source), AV.v (Go.Value.int IntKind.i64 a1.Stamp.Seq)]]).length) <|
  chk (0 + x0.toNat + ((List.map nGGiven a0 ++ [[AV.v (Go.Value.int IntKind.i64 a1.Script), AV.v (Go.Value.int IntKind.i64 a1.Part), AV.v (Go.Value.int IntKind.i64 a1.Marker), AV.v (Go.Value.int IntKind.i64 a1.Level), AV.v (Go.Value.int IntKind.i64 a1.Value), AV.v (Go.Value.int IntKind.i64 a1.Stamp.Time), AV.v (Go.Value.int IntKind.i64 a1.Stamp.Source), AV.v (Go.Value.int IntKind.i64 a1.Stamp.Seq)]]).length - x0.toNat) ≤ (List.map nGGiven a0 ++ [[AV.v (Go.Value.int IntKind.i64 a1.Script), AV.v (Go.Value.int IntKind.i64 a1.Part), AV.v (Go.Value.int IntKind.i64 a1.Marker), AV.v (Go.Value.int IntKind.i64 a1.Level), AV.v (Go.Value.int IntKind.i64 a1.Value), AV.v (Go.Value.int IntKind.i64 a1.Stamp.Time), AV.v (Go.Value.int IntKind.i64 a1.Stamp.Source), AV.v (Go.Value.int IntKind.i64 a1.Stamp.Seq)]]).length) <|
  chk (0 + (w64 (x0 + 1)).toNat + ((List.map nGGiven a0 ++ [[AV.v (Go.Value.int IntKind.i64 a1.Script), AV.v (Go.Value.int IntKind.i64 a1.Part), AV.v (Go.Value.int IntKind.i64 a1.Marker), AV.v (Go.Value.int IntKind.i64 a1.Level), AV.v (Go.Value.int IntKind.i64 a1.Value), AV.v (Go.Value.int IntKind.i64 a1.Stamp.Time), AV.v (Go.Value.int IntKind.i64 a1.Stamp.Source), AV.v (Go.Value.int IntKind.i64 a1.Stamp.Seq)]]).length - (w64 (x0 + 1)).toNat) ≤ (List.map nGGiven a0 ++ [[AV.v (Go.Value.int IntKind.i64 a1.Script), AV.v (Go.Value.int IntKind.i64 a1.Part), AV.v (Go.Value.int IntKind.i64 a1.Marker), AV.v (Go.Value.int IntKind.i64 a1.Level), AV.v (Go.Value.int IntKind.i64 a1.Value), AV.v (Go.Value.int IntKind.i64 a1.Stamp.Time), AV.v (Go.Value.int IntKind.i64 a1.Stamp.Source), AV.v (Go.Value.int IntKind.i64 a1.Stamp.Seq)]]).length) <|
  chk ((0 : Int) ≤ x0) <|
  chk ((x0 : Int) < ((↑(List.map nGGiven a0 ++ [[AV.v (Go.Value.int IntKind.i64 a1.Script), AV.v (Go.Value.int IntKind.i64 a1.Part), AV.v (Go.Value.int IntKind.i64 a1.Marker), AV.v (Go.Value.int IntKind.i64 a1.Level), AV.v (Go.Value.int IntKind.i64 a1.Value), AV.v (Go.Value.int IntKind.i64 a1.Stamp.Time), AV.v (Go.Value.int IntKind.i64 a1.Stamp.Source), AV.v (Go.Value.int IntKind.i64 a1.Stamp.Seq)]]).length : Int))) <|
  elemD dGGiven (((List.take (0 + (w64 (x0 + 1)).toNat) ((List.map nGGiven a0) ++ ([nGGiven a1]))) ++ (List.take ((List.map nGGiven a0 ++ [[AV.v (Go.Value.int IntKind.i64 a1.Script), AV.v (Go.Value.int IntKind.i64 a1.Part), AV.v (Go.Value.int IntKind.i64 a1.Marker), AV.v (Go.Value.int IntKind.i64 a1.Level), AV.v (Go.Value.int IntKind.i64 a1.Value), AV.v (Go.Value.int IntKind.i64 a1.Stamp.Time), AV.v (Go.Value.int IntKind.i64 a1.Stamp.Source), AV.v (Go.Value.int IntKind.i64 a1.Stamp.Seq)]]).length - (w64 (x0 + 1)).toNat) (List.take ((List.map nGGiven a0 ++ [[AV.v (Go.Value.int IntKind.i64 a1.Script), AV.v (Go.Value.int IntKind.i64 a1.Part), AV.v (Go.Value.int IntKind.i64 a1.Marker), AV.v (Go.Value.int IntKind.i64 a1.Level), AV.v (Go.Value.int IntKind.i64 a1.Value), AV.v (Go.Value.int IntKind.i64 a1.Stamp.Time), AV.v (Go.Value.int IntKind.i64 a1.Stamp.Source), AV.v (Go.Value.int IntKind.i64 a1.Stamp.Seq)]]).length - x0.toNat) (List.drop (0 + x0.toNat) ((List.map nGGiven a0) ++ ([nGGiven a1])))))) ++ (List.drop (0 + (w64 (x0 + 1)).toNat + Min.min (List.take ((List.map nGGiven a0 ++ [[AV.v (Go.Value.int IntKind.i64 a1.Script), AV.v (Go.Value.int IntKind.i64 a1.Part), AV.v (Go.Value.int IntKind.i64 a1.Marker), AV.v (Go.Value.int IntKind.i64 a1.Level), AV.v (Go.Value.int IntKind.i64 a1.Value), AV.v (Go.Value.int IntKind.i64 a1.Stamp.Time), AV.v (Go.Value.int IntKind.i64 a1.Stamp.Source), AV.v (Go.Value.int IntKind.i64 a1.Stamp.Seq)]]).length - x0.toNat) (List.drop (0 + x0.toNat) (List.map nGGiven a0 ++ [[AV.v (Go.Value.int IntKind.i64 a1.Script), AV.v (Go.Value.int IntKind.i64 a1.Part), AV.v (Go.Value.int IntKind.i64 a1.Marker), AV.v (Go.Value.int IntKind.i64 a1.Level), AV.v (Go.Value.int IntKind.i64 a1.Value), AV.v (Go.Value.int IntKind.i64 a1.Stamp.Time), AV.v (Go.Value.int IntKind.i64 a1.Stamp.Source), AV.v (Go.Value.int IntKind.i64 a1.Stamp.Seq)]]))).length ((List.map nGGiven a0 ++ [[AV.v (Go.Value.int IntKind.i64 a1.Script), AV.v (Go.Value.int IntKind.i64 a1.Part), AV.v (Go.Value.int IntKind.i64 a1.Marker), AV.v (Go.Value.int IntKind.i64 a1.Level), AV.v (Go.Value.int IntKind.i64 a1.Value), AV.v (Go.Value.int IntKind.i64 a1.Stamp.Time), AV.v (Go.Value.int IntKind.i64 a1.Stamp.Source), AV.v (Go.Value.int IntKind.i64 a1.Stamp.Seq)]]).length - (w64 (x0 + 1)).toNat)) ((List.map nGGiven a0) ++ ([nGGiven a1])))) (0 + x0.toNat) fun (c6 : GGiven) =>
  chk ((List.map nGGiven a0 ++ [[AV.v (Go.Value.int IntKind.i64 a1.Script), AV.v (Go.Value.int IntKind.i64 a1.Part), AV.v (Go.Value.int IntKind.i64 a1.Marker), AV.v (Go.Value.int IntKind.i64 a1.Level), AV.v (Go.Value.int IntKind.i64 a1.Value), AV.v (Go.Value.int IntKind.i64 a1.Stamp.Time), AV.v (Go.Value.int IntKind.i64 a1.Stamp.Source), AV.v (Go.Value.int IntKind.i64 a1.Stamp.Seq)]]).length = ((List.take (0 + (w64 (x0 + 1)).toNat) (List.map nGGiven a0 ++ [[AV.v (Go.Value.int IntKind.i64 a1.Script), AV.v (Go.Value.int IntKind.i64 a1.Part), AV.v (Go.Value.int IntKind.i64 a1.Marker), AV.v (Go.Value.int IntKind.i64 a1.Level), AV.v (Go.Value.int IntKind.i64 a1.Value), AV.v (Go.Value.int IntKind.i64 a1.Stamp.Time), AV.v (Go.Value.int IntKind.i64 a1.Stamp.Source), AV.v (Go.Value.int IntKind.i64 a1.Stamp.Seq)]]) ++ List.take ((List.map nGGiven a0 ++ [[AV.v (Go.Value.int IntKind.i64 a1.Script), AV.v (Go.Value.int IntKind.i64 a1.Part), AV.v (Go.Value.int IntKind.i64 a1.Marker), AV.v (Go.Value.int IntKind.i64 a1.Level), AV.v (Go.Value.int IntKind.i64 a1.Value), AV.v (Go.Value.int IntKind.i64 a1.Stamp.Time), AV.v (Go.Value.int IntKind.i64 a1.Stamp.Source), AV.v (Go.Value.int IntKind.i64 a1.Stamp.Seq)]]).length - (w64 (x0 + 1)).toNat) (List.take ((List.map nGGiven a0 ++ [[AV.v (Go.Value.int IntKind.i64 a1.Script), AV.v (Go.Value.int IntKind.i64 a1.Part), AV.v (Go.Value.int IntKind.i64 a1.Marker), AV.v (Go.Value.int IntKind.i64 a1.Level), AV.v (Go.Value.int IntKind.i64 a1.Value), AV.v (Go.Value.int IntKind.i64 a1.Stamp.Time), AV.v (Go.Value.int IntKind.i64 a1.Stamp.Source), AV.v (Go.Value.int IntKind.i64 a1.Stamp.Seq)]]).length - x0.toNat) (List.drop (0 + x0.toNat) (List.map nGGiven a0 ++ [[AV.v (Go.Value.int IntKind.i64 a1.Script), AV.v (Go.Value.int IntKind.i64 a1.Part), AV.v (Go.Value.int IntKind.i64 a1.Marker), AV.v (Go.Value.int IntKind.i64 a1.Level), AV.v (Go.Value.int IntKind.i64 a1.Value), AV.v (Go.Value.int IntKind.i64 a1.Stamp.Time), AV.v (Go.Value.int IntKind.i64 a1.Stamp.Source), AV.v (Go.Value.int IntKind.i64 a1.Stamp.Seq)]]))) ++ List.drop (0 + (w64 (x0 + 1)).toNat + Min.min (List.take ((List.map nGGiven a0 ++ [[AV.v (Go.Value.int IntKind.i64 a1.Script), AV.v (Go.Value.int IntKind.i64 a1.Part), AV.v (Go.Value.int IntKind.i64 a1.Marker), AV.v (Go.Value.int IntKind.i64 a1.Level), AV.v (Go.Value.int IntKind.i64 a1.Value), AV.v (Go.Value.int IntKind.i64 a1.Stamp.Time), AV.v (Go.Value.int IntKind.i64 a1.Stamp.Source), AV.v (Go.Value.int IntKind.i64 a1.Stamp.Seq)]]).length - x0.toNat) (List.drop (0 + x0.toNat) (List.map nGGiven a0 ++ [[AV.v (Go.Value.int IntKind.i64 a1.Script), AV.v (Go.Value.int IntKind.i64 a1.Part), AV.v (Go.Value.int IntKind.i64 a1.Marker), AV.v (Go.Value.int IntKind.i64 a1.Level), AV.v (Go.Value.int IntKind.i64 a1.Value), AV.v (Go.Value.int IntKind.i64 a1.Stamp.Time), AV.v (Go.Value.int IntKind.i64 a1.Stamp.Source), AV.v (Go.Value.int IntKind.i64 a1.Stamp.Seq)]]))).length ((List.map nGGiven a0 ++ [[AV.v (Go.Value.int IntKind.i64 a1.Script), AV.v (Go.Value.int IntKind.i64 a1.Part), AV.v (Go.Value.int IntKind.i64 a1.Marker), AV.v (Go.Value.int IntKind.i64 a1.Level), AV.v (Go.Value.int IntKind.i64 a1.Value), AV.v (Go.Value.int IntKind.i64 a1.Stamp.Time), AV.v (Go.Value.int IntKind.i64 a1.Stamp.Source), AV.v (Go.Value.int IntKind.i64 a1.Stamp.Seq)]]).length - (w64 (x0 + 1)).toNat)) (List.map nGGiven a0 ++ [[AV.v (Go.Value.int IntKind.i64 a1.Script), AV.v (Go.Value.int IntKind.i64 a1.Part), AV.v (Go.Value.int IntKind.i64 a1.Marker), AV.v (Go.Value.int IntKind.i64 a1.Level), AV.v (Go.Value.int IntKind.i64 a1.Value), AV.v (Go.Value.int IntKind.i64 a1.Stamp.Time), AV.v (Go.Value.int IntKind.i64 a1.Stamp.Source), AV.v (Go.Value.int IntKind.i64 a1.Stamp.Seq)]])).set (0 + x0.toNat) [AV.v (Go.Value.int IntKind.i64 a1.Script), AV.v (Go.Value.int IntKind.i64 a1.Part), AV.v (Go.Value.int IntKind.i64 a1.Marker), AV.v (Go.Value.int IntKind.i64 a1.Level), AV.v (Go.Value.int IntKind.i64 a1.Value), AV.v (Go.Value.int IntKind.i64 a1.Stamp.Time), AV.v (Go.Value.int IntKind.i64 a1.Stamp.Source), AV.v (Go.Value.int IntKind.i64 a1.Stamp.Seq)]).length) <|
  some (AV.new 8 ty_api_Given (List.set (((List.take (0 + (w64 (x0 + 1)).toNat) ((List.map nGGiven a0) ++ ([nGGiven a1]))) ++ (List.take ((List.map nGGiven a0 ++ [[AV.v (Go.Value.int IntKind.i64 a1.Script), AV.v (Go.Value.int IntKind.i64 a1.Part), AV.v (Go.Value.int IntKind.i64 a1.Marker), AV.v (Go.Value.int IntKind.i64 a1.Level), AV.v (Go.Value.int IntKind.i64 a1.Value), AV.v (Go.Value.int IntKind.i64 a1.Stamp.Time), AV.v (Go.Value.int IntKind.i64 a1.Stamp.Source), AV.v (Go.Value.int IntKind.i64 a1.Stamp.Seq)]]).length - (w64 (x0 + 1)).toNat) (List.take ((List.map nGGiven a0 ++ [[AV.v (Go.Value.int IntKind.i64 a1.Script), AV.v (Go.Value.int IntKind.i64 a1.Part), AV.v (Go.Value.int IntKind.i64 a1.Marker), AV.v (Go.Value.int IntKind.i64 a1.Level), AV.v (Go.Value.int IntKind.i64 a1.Value), AV.v (Go.Value.int IntKind.i64 a1.Stamp.Time), AV.v (Go.Value.int IntKind.i64 a1.Stamp.Source), AV.v (Go.Value.int IntKind.i64 a1.Stamp.Seq)]]).length - x0.toNat) (List.drop (0 + x0.toNat) ((List.map nGGiven a0) ++ ([nGGiven a1])))))) ++ (List.drop (0 + (w64 (x0 + 1)).toNat + Min.min (List.take ((List.map nGGiven a0 ++ [[AV.v (Go.Value.int IntKind.i64 a1.Script), AV.v (Go.Value.int IntKind.i64 a1.Part), AV.v (Go.Value.int IntKind.i64 a1.Marker), AV.v (Go.Value.int IntKind.i64 a1.Level), AV.v (Go.Value.int IntKind.i64 a1.Value), AV.v (Go.Value.int IntKind.i64 a1.Stamp.Time), AV.v (Go.Value.int IntKind.i64 a1.Stamp.Source), AV.v (Go.Value.int IntKind.i64 a1.Stamp.Seq)]]).length - x0.toNat) (List.drop (0 + x0.toNat) (List.map nGGiven a0 ++ [[AV.v (Go.Value.int IntKind.i64 a1.Script), AV.v (Go.Value.int IntKind.i64 a1.Part), AV.v (Go.Value.int IntKind.i64 a1.Marker), AV.v (Go.Value.int IntKind.i64 a1.Level), AV.v (Go.Value.int IntKind.i64 a1.Value), AV.v (Go.Value.int IntKind.i64 a1.Stamp.Time), AV.v (Go.Value.int IntKind.i64 a1.Stamp.Source), AV.v (Go.Value.int IntKind.i64 a1.Stamp.Seq)]]))).length ((List.map nGGiven a0 ++ [[AV.v (Go.Value.int IntKind.i64 a1.Script), AV.v (Go.Value.int IntKind.i64 a1.Part), AV.v (Go.Value.int IntKind.i64 a1.Marker), AV.v (Go.Value.int IntKind.i64 a1.Level), AV.v (Go.Value.int IntKind.i64 a1.Value), AV.v (Go.Value.int IntKind.i64 a1.Stamp.Time), AV.v (Go.Value.int IntKind.i64 a1.Stamp.Source), AV.v (Go.Value.int IntKind.i64 a1.Stamp.Seq)]]).length - (w64 (x0 + 1)).toNat)) ((List.map nGGiven a0) ++ ([nGGiven a1])))) (0 + x0.toNat) (nGGiven a1)), [])) = some y) : k_ref29_put_1007 a0 a1 x0 = some y :=
  pt_of zT [7, 4] (by kernel_rfl) h

theorem e_ref29_put (a0 : List GGiven) (a1 : GGiven) {y : AV × Mem} (h : (
  k_ref29_put_1 a0 a1 ((↑(List.map nGGiven a0).length : Int))) = some y) : cw f_ref29_put [AV.row 950 8 0 (List.length (List.map nGGiven a0)), AV.agg (nGGiven a1)] [(950, ⟨8, ty_api_Given, List.map nGGiven a0, false⟩)] = some y :=
  callw_tree R_ref29_put zT [7, 4] rfl (by kernel_rfl) (by kernel_rfl) (by kernel_rfl) (by kernel_rfl) (by kernel_rfl) h

noncomputable def k_mark_Dice_Mark_1012 (a2 : Int) (a3 : Int) (c1 : GMarker) (c3 : GScript) (r5 : Int × GmarkDice) (r7 : Int × GmarkDice) (r8 : Bool × GmarkDice) : Option (AV × Mem) := pt R_mark_Dice_Mark 1012 ⟨[(8, AV.loc 8 9 0 0), (10, AV.loc 10 9 0 0)], [(8, ⟨9, ty_api_MarkEvent, [[I 0, I 0, I 0, I 0, I 0, I 0, I 0, I 0, AV.v (.slice none 0 0)]], true⟩), (10, ⟨9, ty_api_MarkEvent, [[I a3, I c1.ID, I a2, I 0, I c3.Number, I r5.fst, I (w64 (r7.fst - 1)), I 0, AV.row 900 1 0 0]], true⟩), (900, ⟨1, ty_i64_2, [], false⟩), (1000, ⟨2, ty_mark_Dice, [nGmarkDice r8.snd], true⟩)]⟩

noncomputable def k_mark_Dice_Mark_1012v1 (a2 : Int) (a3 : Int) (c1 : GMarker) (c3 : GScript) (r5 : Int × GmarkDice) (r7 : Int × GmarkDice) (r8 : Bool × GmarkDice) : Option (AV × Mem) := pt R_mark_Dice_Mark 1012 ⟨[(8, AV.loc 8 9 0 0), (10, AV.loc 10 9 0 0), (72, B false)], [(8, ⟨9, ty_api_MarkEvent, [[I 0, I 0, I 0, I 0, I 0, I 0, I 0, I 0, AV.v (.slice none 0 0)]], true⟩), (10, ⟨9, ty_api_MarkEvent, [[I a3, I c1.ID, I a2, I 0, I c3.Number, I r5.fst, I (w64 (r7.fst - 1)), I 0, AV.row 900 1 0 (List.length (List.map nI_i64 c3.Pages))]], true⟩), (900, ⟨1, ty_i64_2, List.map nI_i64 c3.Pages, false⟩), (1000, ⟨2, ty_mark_Dice, [nGmarkDice r8.snd], true⟩)]⟩

theorem t_mark_Dice_Mark_1012 (a2 : Int) (a3 : Int) (c1 : GMarker) (c3 : GScript) (r5 : Int × GmarkDice) (r7 : Int × GmarkDice) (r8 : Bool × GmarkDice) {y : AV × Mem} (h : (
  chk (0 + 0 ≤ 0) <|
  some (AV.agg (nGMarkEvent (⟨⟨a3, c1.ID, a2⟩, 0, c3.Number, r5.fst, w64 (r7.fst - 1), 0, []⟩)), [(1000, ⟨2, ty_mark_Dice, [nGmarkDice r8.snd], true⟩)])) = some y) : k_mark_Dice_Mark_1012 a2 a3 c1 c3 r5 r7 r8 = some y :=
  pt_of zT [12] (by kernel_rfl) h

theorem t_mark_Dice_Mark_1012v1 (a2 : Int) (a3 : Int) (c1 : GMarker) (c3 : GScript) (r5 : Int × GmarkDice) (r7 : Int × GmarkDice) (r8 : Bool × GmarkDice) {y : AV × Mem} (h : (
  chk (0 + (List.map nI_i64 c3.Pages).length ≤ (List.map nI_i64 c3.Pages).length) <|
  some (AV.agg [I a3, I c1.ID, I a2, I 0, I c3.Number, I r5.fst, I (w64 (r7.fst - 1)), I 0, AV.sl 1 (List.take ((List.map nI_i64 c3.Pages).length) (List.map nI_i64 c3.Pages))], [(1000, ⟨2, ty_mark_Dice, [nGmarkDice r8.snd], true⟩)])) = some y) : k_mark_Dice_Mark_1012v1 a2 a3 c1 c3 r5 r7 r8 = some y :=
  pt_of zT [12] (by kernel_rfl) h

theorem e_mark_Dice_Mark (a0 : GmarkDice) (a1 : GSetup) (a2 : Int) (a3 : Int) {y : AV × Mem} (h : (
  callD r_mark_Dice_Next (cw f_mark_Dice_Next [AV.loc 1000 2 0 0, I ((↑(List.map nGMarker a1.Markers).length : Int))] [(1000, ⟨2, ty_mark_Dice, [nGmarkDice a0], true⟩)]) fun (r0 : Int × GmarkDice) =>
  chk (0 ≤ r0.fst) <|
  elemD dGMarker (List.map nGMarker a1.Markers) (Int.toNat r0.fst) fun (c1 : GMarker) =>
  brn ((↑(List.map nGScript a1.Scripts).length : Int) == 0) (chk (0 + 0 ≤ 0) <|
   some (AV.agg (nGMarkEvent (⟨⟨a3, c1.ID, a2⟩, 0, 0, 0, 0, 0, []⟩)), [(1000, ⟨2, ty_mark_Dice, [nGmarkDice r0.snd], true⟩)]))
  (callD r_mark_Dice_Next (cw f_mark_Dice_Next [AV.loc 1000 2 0 0, I ((↑(List.map nGScript a1.Scripts).length : Int))] [(1000, ⟨2, ty_mark_Dice, [nGmarkDice r0.snd], true⟩)]) fun (r2 : Int × GmarkDice) =>
   chk (0 ≤ r2.fst) <|
   elemD dGScript (List.map nGScript a1.Scripts) (Int.toNat r2.fst) fun (c3 : GScript) =>
   callD r_mark_paper (cw f_mark_paper [AV.sl 3 (List.map nGPaper a1.Papers), AV.agg (nGScript c3)] []) fun (r4 : GPaper) =>
   callD r_mark_Dice_Next (cw f_mark_Dice_Next [AV.loc 1000 2 0 0, I ((↑(List.map nGPart r4.Parts).length : Int))] [(1000, ⟨2, ty_mark_Dice, [nGmarkDice r2.snd], true⟩)]) fun (r5 : Int × GmarkDice) =>
   chk (0 ≤ r5.fst) <|
   elemD dGPart (List.map nGPart r4.Parts) (Int.toNat r5.fst) fun (c6 : GPart) =>
   callD r_mark_Dice_Next (cw f_mark_Dice_Next [AV.loc 1000 2 0 0, I (w64 (c6.Max + 2))] [(1000, ⟨2, ty_mark_Dice, [nGmarkDice r5.snd], true⟩)]) fun (r7 : Int × GmarkDice) =>
   chk ((List.map nI_i64 c3.Pages).length * (8 + 1) ≤ 1099511627776) <|
   callD r_mark_Dice_Bool (cw f_mark_Dice_Bool [AV.loc 1000 2 0 0, I 12] [(1000, ⟨2, ty_mark_Dice, [nGmarkDice r7.snd], true⟩)]) fun (r8 : Bool × GmarkDice) =>
   brn r8.fst (k_mark_Dice_Mark_1012 a2 a3 c1 c3 r5 r7 r8)
   (k_mark_Dice_Mark_1012v1 a2 a3 c1 c3 r5 r7 r8))) = some y) : cw f_mark_Dice_Mark [AV.loc 1000 2 0 0, AV.agg (nGSetup a1), I a2, I a3] [(1000, ⟨2, ty_mark_Dice, [nGmarkDice a0], true⟩)] = some y :=
  callw_tree R_mark_Dice_Mark zT [12] rfl (by kernel_rfl) (by kernel_rfl) (by kernel_rfl) (by kernel_rfl) (by kernel_rfl) h

noncomputable def k_mark_paper_1 (a0 : List GPaper) (a1 : GScript) (x0 : Int) : Option (AV × Mem) := pt R_mark_paper 1 ⟨[(0, AV.sl 3 (List.map nGPaper a0)), (3, AV.loc 3 7 0 0), (4, AV.loc 4 3 0 0), (5, I x0)], [(3, ⟨7, ty_api_Script, [nGScript a1], true⟩), (4, ⟨3, ty_api_Paper, [[I 0, I 0, AV.v (.slice none 0 0)]], true⟩)]⟩

theorem t_mark_paper_1 (a0 : List GPaper) (a1 : GScript) (x0 : Int) {y : AV × Mem} (h : (
  brn (decide (x0 < (↑(List.map nGPaper a0).length : Int))) (chk ((0 : Int) ≤ x0) <|
   elemD dGPaper (List.map nGPaper a0) x0.toNat fun (c1 : GPaper) =>
   brn (c1.Code == a1.Paper) (chk ((0 : Int) ≤ x0) <|
    elemD dGPaper (List.map nGPaper a0) x0.toNat fun (c2 : GPaper) =>
    brn (c2.Variant == a1.Variant) (chk ((0 : Int) ≤ x0) <|
     elemD dGPaper (List.map nGPaper a0) x0.toNat fun (c3 : GPaper) =>
     some (AV.agg (nGPaper c3), []))
    (k_mark_paper_1 a0 a1 (w64 (x0 + 1))))
   (k_mark_paper_1 a0 a1 (w64 (x0 + 1))))
  (some (AV.agg (nGPaper (⟨0, 0, []⟩)), []))) = some y) : k_mark_paper_1 a0 a1 x0 = some y :=
  pt_of zT [] (by kernel_rfl) h

theorem e_mark_paper (a0 : List GPaper) (a1 : GScript) {y : AV × Mem} (h : (
  k_mark_paper_1 a0 a1 0) = some y) : cw f_mark_paper [AV.sl 3 (List.map nGPaper a0), AV.agg (nGScript a1)] [] = some y :=
  callw_tree R_mark_paper zT [] rfl (by kernel_rfl) (by kernel_rfl) (by kernel_rfl) (by kernel_rfl) (by kernel_rfl) h

noncomputable def k_arbitration_decisive_1 (a0 : List GGiven) (x0 : GGiven) (x1 : Bool) (x2 : Int) : Option (AV × Mem) := pt R_arbitration_decisive 1 ⟨[(2, AV.loc 2 8 0 0), (4, AV.loc 4 8 0 0), (5, B x1), (8, AV.sl 8 (List.map nGGiven a0)), (9, I ((↑(List.map nGGiven a0).length : Int))), (10, I x2)], [(2, ⟨8, ty_api_Given, [nGGiven (⟨0, 0, 0, 0, 0, ⟨0, 0, 0⟩⟩)], true⟩), (4, ⟨8, ty_api_Given, [nGGiven x0], true⟩)]⟩

theorem t_arbitration_decisive_1 (a0 : List GGiven) (x0 : GGiven) (x1 : Bool) (x2 : Int) {y : AV × Mem} (h : (
  brn (decide (x2 < (↑(List.map nGGiven a0).length : Int))) (chk ((0 : Int) ≤ x2) <|
   elemD dGGiven (List.map nGGiven a0) x2.toNat fun (c3 : GGiven) =>
   brn (decide (c3.Level < 2)) (k_arbitration_decisive_1 a0 x0 x1 (w64 (x2 + 1)))
   (brn (!x1) (k_arbitration_decisive_1 a0 c3 true (w64 (x2 + 1)))
    (brn (decide (x0.Level < c3.Level)) (k_arbitration_decisive_1 a0 c3 true (w64 (x2 + 1)))
     (brn (c3.Level == x0.Level) (callD r_stamp_Compare (cw f_stamp_Compare [AV.agg (nGStamp c3.Stamp), AV.agg (nGStamp x0.Stamp)] []) fun (r4 : Int) =>
       brn (decide (0 ≤ r4)) (k_arbitration_decisive_1 a0 c3 true (w64 (x2 + 1)))
       (k_arbitration_decisive_1 a0 x0 x1 (w64 (x2 + 1))))
      (k_arbitration_decisive_1 a0 x0 x1 (w64 (x2 + 1)))))))
  (some (AV.tup [AV.agg (nGGiven x0), B x1], []))) = some y) : k_arbitration_decisive_1 a0 x0 x1 x2 = some y :=
  pt_of zT [] (by kernel_rfl) h

theorem e_arbitration_decisive (a0 : List GGiven) {y : AV × Mem} (h : (
  k_arbitration_decisive_1 a0 (⟨0, 0, 0, 0, 0, ⟨0, 0, 0⟩⟩) false 0) = some y) : cw f_arbitration_decisive [AV.sl 8 (List.map nGGiven a0)] [] = some y :=
  callw_tree R_arbitration_decisive zT [] rfl (by kernel_rfl) (by kernel_rfl) (by kernel_rfl) (by kernel_rfl) (by kernel_rfl) h

theorem e_arbitration_worth (a0 : GGiven) {y : AV × Mem} (h : (
  some (I (if 0 > a0.Value then 0 else a0.Value), [])) = some y) : cw f_arbitration_worth [AV.agg (nGGiven a0)] [] = some y :=
  callw_tree R_arbitration_worth zT [] rfl (by kernel_rfl) (by kernel_rfl) (by kernel_rfl) (by kernel_rfl) (by kernel_rfl) h

noncomputable def k_arbitration_mean_1 (a0 : List GGiven) (x0 : Int) (x1 : Int) (x2 : Int) : Option (AV × Mem) := pt R_arbitration_mean 1 ⟨[(0, AV.sl 8 (List.map nGGiven a0)), (3, AV.v (.int .u64 x0)), (4, AV.v (.int .u64 x1)), (11, AV.sl 8 (List.map nGGiven a0)), (12, I ((↑(List.map nGGiven a0).length : Int))), (13, I x2)], []⟩

theorem t_arbitration_mean_1 (a0 : List GGiven) (x0 : Int) (x1 : Int) (x2 : Int) {y : AV × Mem} (h : (
  brn (decide (x2 < (↑(List.map nGGiven a0).length : Int))) (chk ((0 : Int) ≤ x2) <|
   elemD dGGiven (List.map nGGiven a0) x2.toNat fun (c3 : GGiven) =>
   callD r_arbitration_worth (cw f_arbitration_worth [AV.agg (nGGiven c3)] []) fun (r4 : Int) =>
   k_arbitration_mean_1 a0 (wu64 (x0 + Int.ofNat ((x1.toNat + (wu64 r4).toNat + Int.toNat 0) / 2 ^ 64))) (Int.ofNat ((x1.toNat + (wu64 r4).toNat + Int.toNat 0) % 2 ^ 64)) (w64 (x2 + 1)))
  (callD r_bits_Div64 (cw f_bits_Div64 [AV.v (.int .u64 x0), AV.v (.int .u64 x1), AV.v (.int .u64 (wu64 (↑(List.map nGGiven a0).length : Int)))] []) fun (r5 : Int × Int) =>
   brn (decide (wu64 (↑(List.map nGGiven a0).length : Int) ≤ wu64 (2 * r5.snd))) (some (I (w64 (wu64 (r5.fst + 1))), []))
   (some (I (w64 r5.fst), [])))) = some y) : k_arbitration_mean_1 a0 x0 x1 x2 = some y :=
  pt_of zT [] (by kernel_rfl) h

theorem e_arbitration_mean (a0 : List GGiven) {y : AV × Mem} (h : (
  k_arbitration_mean_1 a0 0 0 0) = some y) : cw f_arbitration_mean [AV.sl 8 (List.map nGGiven a0)] [] = some y :=
  callw_tree R_arbitration_mean zT [] rfl (by kernel_rfl) (by kernel_rfl) (by kernel_rfl) (by kernel_rfl) (by kernel_rfl) h

theorem e_ref28_Less (a0 : GStamp) (a1 : GStamp) {y : AV × Mem} (h : (
  brn (a0.Time != a1.Time) (some (B (decide (a0.Time < a1.Time)), []))
  (brn (a0.Source != a1.Source) (some (B (decide (a0.Source < a1.Source)), []))
   (some (B (decide (a0.Seq < a1.Seq)), [])))) = some y) : cw f_ref28_Less [AV.agg (nGStamp a0), AV.agg (nGStamp a1)] [] = some y :=
  callw_tree R_ref28_Less zT [] rfl (by kernel_rfl) (by kernel_rfl) (by kernel_rfl) (by kernel_rfl) (by kernel_rfl) h

theorem e_arbitration_right (a0 : GMarkRule) (a1 : GSetup) {y : AV × Mem} (h : (
  callD r_marking_Check (cw f_marking_Check [AV.agg (nGSetup a1)] []) fun (r0 : Int) =>
  brn (r0 == 0) (callD r_arbitration_Check (cw f_arbitration_Check [AV.agg (nGMarkRule a0)] []) fun (r1 : Int) =>
   some (B (r1 == 0), []))
  (some (B false, []))) = some y) : cw f_arbitration_right [AV.agg (nGMarkRule a0), AV.agg (nGSetup a1)] [] = some y :=
  callw_tree R_arbitration_right zT [] rfl (by kernel_rfl) (by kernel_rfl) (by kernel_rfl) (by kernel_rfl) (by kernel_rfl) h

end Go.Proofs.YtdhibifcofaioaaGreat
