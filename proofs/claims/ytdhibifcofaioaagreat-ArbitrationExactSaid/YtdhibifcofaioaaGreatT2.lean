/- What the functions compute, between two cut points: printed by a program, checked by the kernel. -/
import Derived.Test.YtdhibifcofaioaaGreatAnn
namespace Go.Proofs.YtdhibifcofaioaaGreat
open Go.Ab
set_option maxRecDepth 100000
set_option linter.unusedVariables false

noncomputable def k_mark_Dice_Events_1 (a1 : GSetup) (a2 : Int) (x0 : List (List AV)) (x1 : GmarkDice) (x2 : Int) : Option (AV × Mem) := pt R_mark_Dice_Events 1 ⟨[(0, AV.loc 1000 2 0 0), (2, I a2), (4, AV.loc 4 9 0 0), (7, AV.row 7 9 0 (List.length x0)), (8, I x2)], [(4, ⟨9, ty_api_Setup, [nGSetup a1], true⟩), (7, ⟨9, ty_api_MarkEvent, x0, false⟩), (1000, ⟨2, ty_mark_Dice, [nGmarkDice x1], true⟩)]⟩

theorem t_mark_Dice_Events_1 (a1 : GSetup) (a2 : Int) (x0 : List (List AV)) (x1 : GmarkDice) (x2 : Int) {y : AV × Mem} (h : (
  brn (decide (x2 < a2)) (callD r_mark_Dice_Next (cw f_mark_Dice_Next [AV.loc 1000 2 0 0, I 20] [(1000, ⟨2, ty_mark_Dice, [nGmarkDice x1], true⟩)]) fun (r3 : Int × GmarkDice) =>
   callD r_mark_Dice_Next (cw f_mark_Dice_Next [AV.loc 1000 2 0 0, I 14] [(1000, ⟨2, ty_mark_Dice, [nGmarkDice r3.snd], true⟩)]) fun (r4 : Int × GmarkDice) =>
   brn (r4.fst == 0) (callD r_mark_Dice_Next (cw f_mark_Dice_Next [AV.loc 1000 2 0 0, I ((↑(List.map nGMarker a1.Markers).length : Int))] [(1000, ⟨2, ty_mark_Dice, [nGmarkDice r4.snd], true⟩)]) fun (r5 : Int × GmarkDice) =>
    chk (0 ≤ r5.fst) <|
    elemD dGMarker (List.map nGMarker a1.Markers) (Int.toNat r5.fst) fun (c6 : GMarker) =>
    chk (x0.length = x0.length) <|
    chk ((x0.length + 1) * (88 + 1) ≤ 1099511627776) <|
    chk ((x0 ++ [[AV.v (Go.Value.int IntKind.i64 (w64 (w64 (5 * x2) + r3.fst))), AV.v (Go.Value.int IntKind.i64 0), AV.v (Go.Value.int IntKind.i64 x2), AV.v (Go.Value.int IntKind.i64 1), AV.v (Go.Value.int IntKind.i64 0), AV.v (Go.Value.int IntKind.i64 0), AV.v (Go.Value.int IntKind.i64 0), AV.v (Go.Value.int IntKind.i64 c6.ID), AV.sl ((fun x => x.size) R_mark_Dice_Events.P.types[3]) []]]).length = (x0 ++ [[AV.v (Go.Value.int IntKind.i64 (w64 (w64 (5 * x2) + r3.fst))), AV.v (Go.Value.int IntKind.i64 0), AV.v (Go.Value.int IntKind.i64 x2), AV.v (Go.Value.int IntKind.i64 1), AV.v (Go.Value.int IntKind.i64 0), AV.v (Go.Value.int IntKind.i64 0), AV.v (Go.Value.int IntKind.i64 0), AV.v (Go.Value.int IntKind.i64 c6.ID), AV.sl ((fun x => x.size) R_mark_Dice_Events.P.types[3]) []]]).length) <|
    k_mark_Dice_Events_1 a1 a2 (x0 ++ ([nGMarkEvent (⟨⟨w64 (w64 (5 * x2) + r3.fst), 0, x2⟩, 1, 0, 0, 0, c6.ID, []⟩)])) r5.snd (w64 (x2 + 1)))
   (brn (r4.fst == 1) (brn (decide (0 < (↑(List.map nGScript a1.Scripts).length : Int))) (callD r_mark_Dice_Next (cw f_mark_Dice_Next [AV.loc 1000 2 0 0, I ((↑(List.map nGScript a1.Scripts).length : Int))] [(1000, ⟨2, ty_mark_Dice, [nGmarkDice r4.snd], true⟩)]) fun (r7 : Int × GmarkDice) =>
      chk (0 ≤ r7.fst) <|
      elemD dGScript (List.map nGScript a1.Scripts) (Int.toNat r7.fst) fun (c8 : GScript) =>
      callD r_mark_Dice_Next (cw f_mark_Dice_Next [AV.loc 1000 2 0 0, I 3] [(1000, ⟨2, ty_mark_Dice, [nGmarkDice r7.snd], true⟩)]) fun (r9 : Int × GmarkDice) =>
      chk (x0.length = x0.length) <|
      chk ((x0.length + 1) * (88 + 1) ≤ 1099511627776) <|
      chk ((x0 ++ [[AV.v (Go.Value.int IntKind.i64 (w64 (w64 (5 * x2) + r3.fst))), AV.v (Go.Value.int IntKind.i64 0), AV.v (Go.Value.int IntKind.i64 x2), AV.v (Go.Value.int IntKind.i64 2), AV.v (Go.Value.int IntKind.i64 c8.Number), AV.v (Go.Value.int IntKind.i64 (w64 (r9.fst - 1))), AV.v (Go.Value.int IntKind.i64 0), AV.v (Go.Value.int IntKind.i64 0), AV.sl ((fun x => x.size) R_mark_Dice_Events.P.types[3]) []]]).length = (x0 ++ [[AV.v (Go.Value.int IntKind.i64 (w64 (w64 (5 * x2) + r3.fst))), AV.v (Go.Value.int IntKind.i64 0), AV.v (Go.Value.int IntKind.i64 x2), AV.v (Go.Value.int IntKind.i64 2), AV.v (Go.Value.int IntKind.i64 c8.Number), AV.v (Go.Value.int IntKind.i64 (w64 (r9.fst - 1))), AV.v (Go.Value.int IntKind.i64 0), AV.v (Go.Value.int IntKind.i64 0), AV.sl ((fun x => x.size) R_mark_Dice_Events.P.types[3]) []]]).length) <|
      k_mark_Dice_Events_1 a1 a2 (x0 ++ ([nGMarkEvent (⟨⟨w64 (w64 (5 * x2) + r3.fst), 0, x2⟩, 2, c8.Number, w64 (r9.fst - 1), 0, 0, []⟩)])) r9.snd (w64 (x2 + 1)))
     (k_mark_Dice_Events_1 a1 a2 x0 r4.snd (w64 (x2 + 1))))
    (brn (r4.fst == 2) (brn (decide (0 < (↑x0.length : Int))) (callD r_mark_Dice_Next (cw f_mark_Dice_Next [AV.loc 1000 2 0 0, I (↑x0.length : Int)] [(1000, ⟨2, ty_mark_Dice, [nGmarkDice r4.snd], true⟩)]) fun (r10 : Int × GmarkDice) =>
       chk (0 ≤ r10.fst) <|
       chk ((r10.fst : Int) < (↑x0.length : Int)) <|
       elemD dGMarkEvent x0 (0 + Int.toNat r10.fst) fun (c11 : GMarkEvent) =>
       chk (x0.length = x0.length) <|
       chk ((x0.length + 1) * (88 + 1) ≤ 1099511627776) <|
       chk ((x0 ++ [[AV.v (Go.Value.int IntKind.i64 c11.Stamp.Time), AV.v (Go.Value.int IntKind.i64 c11.Stamp.Source), AV.v (Go.Value.int IntKind.i64 c11.Stamp.Seq), AV.v (Go.Value.int IntKind.i64 c11.Kind), AV.v (Go.Value.int IntKind.i64 c11.Script), AV.v (Go.Value.int IntKind.i64 c11.Part), AV.v (Go.Value.int IntKind.i64 c11.Value), AV.v (Go.Value.int IntKind.i64 c11.Marker), AV.sl 1 (List.map nI_i64 c11.Pages)]]).length = (x0 ++ [[AV.v (Go.Value.int IntKind.i64 c11.Stamp.Time), AV.v (Go.Value.int IntKind.i64 c11.Stamp.Source), AV.v (Go.Value.int IntKind.i64 c11.Stamp.Seq), AV.v (Go.Value.int IntKind.i64 c11.Kind), AV.v (Go.Value.int IntKind.i64 c11.Script), AV.v (Go.Value.int IntKind.i64 c11.Part), AV.v (Go.Value.int IntKind.i64 c11.Value), AV.v (Go.Value.int IntKind.i64 c11.Marker), AV.sl 1 (List.map nI_i64 c11.Pages)]]).length) <|
       k_mark_Dice_Events_1 a1 a2 (x0 ++ ([nGMarkEvent c11])) r10.snd (w64 (x2 + 1)))
      (k_mark_Dice_Events_1 a1 a2 x0 r4.snd (w64 (x2 + 1))))
     (brn (r4.fst == 3) (brn (decide (0 < (↑x0.length : Int))) (callD r_mark_Dice_Next (cw f_mark_Dice_Next [AV.loc 1000 2 0 0, I (↑x0.length : Int)] [(1000, ⟨2, ty_mark_Dice, [nGmarkDice r4.snd], true⟩)]) fun (r12 : Int × GmarkDice) =>
        chk (0 ≤ r12.fst) <|
        chk ((r12.fst : Int) < (↑x0.length : Int)) <|
        elemD dGMarkEvent x0 (0 + Int.toNat r12.fst) fun (c13 : GMarkEvent) =>
        chk (x0.length = x0.length) <|
        chk ((x0.length + 1) * (88 + 1) ≤ 1099511627776) <|
        chk ((x0 ++ [[AV.v (Go.Value.int IntKind.i64 c13.Stamp.Time), AV.v (Go.Value.int IntKind.i64 c13.Stamp.Source), AV.v (Go.Value.int IntKind.i64 c13.Stamp.Seq), AV.v (Go.Value.int IntKind.i64 c13.Kind), AV.v (Go.Value.int IntKind.i64 c13.Script), AV.v (Go.Value.int IntKind.i64 c13.Part), AV.v (Go.Value.int IntKind.i64 (w64 (c13.Value + 1))), AV.v (Go.Value.int IntKind.i64 c13.Marker), AV.sl 1 (List.map nI_i64 c13.Pages)]]).length = (x0 ++ [[AV.v (Go.Value.int IntKind.i64 c13.Stamp.Time), AV.v (Go.Value.int IntKind.i64 c13.Stamp.Source), AV.v (Go.Value.int IntKind.i64 c13.Stamp.Seq), AV.v (Go.Value.int IntKind.i64 c13.Kind), AV.v (Go.Value.int IntKind.i64 c13.Script), AV.v (Go.Value.int IntKind.i64 c13.Part), AV.v (Go.Value.int IntKind.i64 (w64 (c13.Value + 1))), AV.v (Go.Value.int IntKind.i64 c13.Marker), AV.sl 1 (List.map nI_i64 c13.Pages)]]).length) <|
        k_mark_Dice_Events_1 a1 a2 (x0 ++ ([nGMarkEvent (⟨⟨c13.Stamp.Time, c13.Stamp.Source, c13.Stamp.Seq⟩, c13.Kind, c13.Script, c13.Part, w64 (c13.Value + 1), c13.Marker, c13.Pages⟩)])) r12.snd (w64 (x2 + 1)))
       (k_mark_Dice_Events_1 a1 a2 x0 r4.snd (w64 (x2 + 1))))
      (callD r_mark_Dice_Mark (cw f_mark_Dice_Mark [AV.loc 1000 2 0 0, AV.agg (nGSetup a1), I x2, I (w64 (w64 (5 * x2) + r3.fst))] [(1000, ⟨2, ty_mark_Dice, [nGmarkDice r4.snd], true⟩)]) fun (r14 : GMarkEvent × GmarkDice) =>
       chk (x0.length = x0.length) <|
       chk ((x0.length + 1) * (88 + 1) ≤ 1099511627776) <|
       chk ((x0 ++ [[AV.v (Go.Value.int IntKind.i64 r14.fst.Stamp.Time), AV.v (Go.Value.int IntKind.i64 r14.fst.Stamp.Source), AV.v (Go.Value.int IntKind.i64 r14.fst.Stamp.Seq), AV.v (Go.Value.int IntKind.i64 r14.fst.Kind), AV.v (Go.Value.int IntKind.i64 r14.fst.Script), AV.v (Go.Value.int IntKind.i64 r14.fst.Part), AV.v (Go.Value.int IntKind.i64 r14.fst.Value), AV.v (Go.Value.int IntKind.i64 r14.fst.Marker), AV.sl 1 (List.map nI_i64 r14.fst.Pages)]]).length = (x0 ++ [[AV.v (Go.Value.int IntKind.i64 r14.fst.Stamp.Time), AV.v (Go.Value.int IntKind.i64 r14.fst.Stamp.Source), AV.v (Go.Value.int IntKind.i64 r14.fst.Stamp.Seq), AV.v (Go.Value.int IntKind.i64 r14.fst.Kind), AV.v (Go.Value.int IntKind.i64 r14.fst.Script), AV.v (Go.Value.int IntKind.i64 r14.fst.Part), AV.v (Go.Value.int IntKind.i64 r14.fst.Value), AV.v (Go.Value.int IntKind.i64 r14.fst.Marker), AV.sl 1 (List.map nI_i64 r14.fst.Pages)]]).length) <|
       k_mark_Dice_Events_1 a1 a2 (x0 ++ ([nGMarkEvent r14.fst])) r14.snd (w64 (x2 + 1)))))))
  (chk (x0.length = x0.length) <|
   some (AV.new 9 ty_api_MarkEvent x0, [(1000, ⟨2, ty_mark_Dice, [nGmarkDice x1], true⟩)]))) = some y) : k_mark_Dice_Events_1 a1 a2 x0 x1 x2 = some y :=
  pt_of zT [] (by kernel_rfl) h

theorem e_mark_Dice_Events (a0 : GmarkDice) (a1 : GSetup) (a2 : Int) {y : AV × Mem} (h : (
  k_mark_Dice_Events_1 a1 a2 [] a0 0) = some y) : cw f_mark_Dice_Events [AV.loc 1000 2 0 0, AV.agg (nGSetup a1), I a2] [(1000, ⟨2, ty_mark_Dice, [nGmarkDice a0], true⟩)] = some y :=
  callw_tree R_mark_Dice_Events zT [] rfl (by kernel_rfl) (by kernel_rfl) (by kernel_rfl) (by kernel_rfl) (by kernel_rfl) h

noncomputable def k_mark_Dice_Full_1 (a1 : GSetup) (a2 : Int) (x0 : List (List AV)) (x1 : GmarkDice) (x2 : Int) : Option (AV × Mem) := pt R_mark_Dice_Full 1 ⟨[(0, AV.loc 1000 2 0 0), (2, I a2), (4, AV.loc 4 9 0 0), (7, AV.row 7 9 0 (List.length x0)), (8, I x2)], [(4, ⟨9, ty_api_Setup, [nGSetup a1], true⟩), (7, ⟨9, ty_api_MarkEvent, x0, false⟩), (1000, ⟨2, ty_mark_Dice, [nGmarkDice x1], true⟩)]⟩

noncomputable def k_mark_Dice_Full_2 (a1 : GSetup) (a2 : Int) (x2 : Int) (r4 : GPaper) (x5 : List (List AV)) (x6 : GmarkDice) (x7 : Int) : Option (AV × Mem) := pt R_mark_Dice_Full 2 ⟨[(0, AV.loc 1000 2 0 0), (2, I a2), (4, AV.loc 4 9 0 0), (7, AV.row 7 9 0 (List.length x5)), (8, I x2), (9, AV.loc 9 3 0 0), (10, I x7)], [(4, ⟨9, ty_api_Setup, [nGSetup a1], true⟩), (7, ⟨9, ty_api_MarkEvent, x5, false⟩), (9, ⟨3, ty_api_Paper, [nGPaper r4], true⟩), (1000, ⟨2, ty_mark_Dice, [nGmarkDice x6], true⟩)]⟩

noncomputable def k_mark_Dice_Full_3 (a1 : GSetup) (a2 : Int) (x2 : Int) (r4 : GPaper) (x7 : Int) (x8 : List (List AV)) (x9 : GmarkDice) (x10 : Int) : Option (AV × Mem) := pt R_mark_Dice_Full 3 ⟨[(0, AV.loc 1000 2 0 0), (2, I a2), (4, AV.loc 4 9 0 0), (7, AV.row 7 9 0 (List.length x8)), (8, I x2), (9, AV.loc 9 3 0 0), (10, I x7), (11, I x10)], [(4, ⟨9, ty_api_Setup, [nGSetup a1], true⟩), (7, ⟨9, ty_api_MarkEvent, x8, false⟩), (9, ⟨3, ty_api_Paper, [nGPaper r4], true⟩), (1000, ⟨2, ty_mark_Dice, [nGmarkDice x9], true⟩)]⟩

theorem t_mark_Dice_Full_1 (a1 : GSetup) (a2 : Int) (x0 : List (List AV)) (x1 : GmarkDice) (x2 : Int) {y : AV × Mem} (h : (
  brn (decide (x2 < (↑(List.map nGScript a1.Scripts).length : Int))) (chk ((0 : Int) ≤ x2) <|
   elemD dGScript (List.map nGScript a1.Scripts) x2.toNat fun (c3 : GScript) =>
   callD r_mark_paper (cw f_mark_paper [AV.sl 3 (List.map nGPaper a1.Papers), AV.agg (nGScript c3)] []) fun (r4 : GPaper) =>
   k_mark_Dice_Full_2 a1 a2 x2 r4 x0 x1 0)
  (chk (x0.length = x0.length) <|
   some (AV.new 9 ty_api_MarkEvent x0, [(1000, ⟨2, ty_mark_Dice, [nGmarkDice x1], true⟩)]))) = some y) : k_mark_Dice_Full_1 a1 a2 x0 x1 x2 = some y :=
  pt_of zT [] (by kernel_rfl) h

theorem t_mark_Dice_Full_2 (a1 : GSetup) (a2 : Int) (x2 : Int) (r4 : GPaper) (x5 : List (List AV)) (x6 : GmarkDice) (x7 : Int) {y : AV × Mem} (h : (
  brn (decide (x7 < (↑(List.map nGMarker a1.Markers).length : Int))) (k_mark_Dice_Full_3 a1 a2 x2 r4 x7 x5 x6 0)
  (k_mark_Dice_Full_1 a1 a2 x5 x6 (w64 (x2 + 1)))) = some y) : k_mark_Dice_Full_2 a1 a2 x2 r4 x5 x6 x7 = some y :=
  pt_of zT [] (by kernel_rfl) h

theorem t_mark_Dice_Full_3 (a1 : GSetup) (a2 : Int) (x2 : Int) (r4 : GPaper) (x7 : Int) (x8 : List (List AV)) (x9 : GmarkDice) (x10 : Int) {y : AV × Mem} (h : (
  brn (decide (x10 < (↑(List.map nGPart r4.Parts).length : Int))) (chk ((0 : Int) ≤ x10) <|
   elemD dGPart (List.map nGPart r4.Parts) x10.toNat fun (c11 : GPart) =>
   brn (c11.Kind == 1) (callD r_mark_Dice_Next (cw f_mark_Dice_Next [AV.loc 1000 2 0 0, I 4] [(1000, ⟨2, ty_mark_Dice, [nGmarkDice x9], true⟩)]) fun (r12 : Int × GmarkDice) =>
    brn (decide (0 < r12.fst)) (chk ((0 : Int) ≤ x7) <|
     elemD dGMarker (List.map nGMarker a1.Markers) x7.toNat fun (c13 : GMarker) =>
     chk ((0 : Int) ≤ x2) <|
     elemD dGScript (List.map nGScript a1.Scripts) x2.toNat fun (c14 : GScript) =>
     chk ((0 : Int) ≤ x10) <|
     elemD dGPart (List.map nGPart r4.Parts) x10.toNat fun (c15 : GPart) =>
     callD r_mark_Dice_Next (cw f_mark_Dice_Next [AV.loc 1000 2 0 0, I (w64 (c15.Max + 1))] [(1000, ⟨2, ty_mark_Dice, [nGmarkDice r12.snd], true⟩)]) fun (r16 : Int × GmarkDice) =>
     chk ((0 : Int) ≤ x2) <|
     elemD dGScript (List.map nGScript a1.Scripts) x2.toNat fun (c17 : GScript) =>
     chk (x8.length = x8.length) <|
     chk ((x8.length + 1) * (88 + 1) ≤ 1099511627776) <|
     chk ((x8 ++ [[AV.v (Go.Value.int IntKind.i64 (w64 (a2 + (↑x8.length : Int)))), AV.v (Go.Value.int IntKind.i64 c13.ID), AV.v (Go.Value.int IntKind.i64 (w64 (1000 + (↑x8.length : Int)))), AV.v (Go.Value.int IntKind.i64 0), AV.v (Go.Value.int IntKind.i64 c14.Number), AV.v (Go.Value.int IntKind.i64 x10), AV.v (Go.Value.int IntKind.i64 r16.fst), AV.v (Go.Value.int IntKind.i64 0), AV.sl 1 (List.map nI_i64 c17.Pages)]]).length = (x8 ++ [[AV.v (Go.Value.int IntKind.i64 (w64 (a2 + (↑x8.length : Int)))), AV.v (Go.Value.int IntKind.i64 c13.ID), AV.v (Go.Value.int IntKind.i64 (w64 (1000 + (↑x8.length : Int)))), AV.v (Go.Value.int IntKind.i64 0), AV.v (Go.Value.int IntKind.i64 c14.Number), AV.v (Go.Value.int IntKind.i64 x10), AV.v (Go.Value.int IntKind.i64 r16.fst), AV.v (Go.Value.int IntKind.i64 0), AV.sl 1 (List.map nI_i64 c17.Pages)]]).length) <|
     k_mark_Dice_Full_3 a1 a2 x2 r4 x7 (x8 ++ ([nGMarkEvent (⟨⟨w64 (a2 + (↑x8.length : Int)), c13.ID, w64 (1000 + (↑x8.length : Int))⟩, 0, c14.Number, x10, r16.fst, 0, c17.Pages⟩)])) r16.snd (w64 (x10 + 1)))
    (k_mark_Dice_Full_3 a1 a2 x2 r4 x7 x8 r12.snd (w64 (x10 + 1))))
   (k_mark_Dice_Full_3 a1 a2 x2 r4 x7 x8 x9 (w64 (x10 + 1))))
  (k_mark_Dice_Full_2 a1 a2 x2 r4 x8 x9 (w64 (x7 + 1)))) = some y) : k_mark_Dice_Full_3 a1 a2 x2 r4 x7 x8 x9 x10 = some y :=
  pt_of zT [] (by kernel_rfl) h

theorem e_mark_Dice_Full (a0 : GmarkDice) (a1 : GSetup) (a2 : Int) {y : AV × Mem} (h : (
  k_mark_Dice_Full_1 a1 a2 [] a0 0) = some y) : cw f_mark_Dice_Full [AV.loc 1000 2 0 0, AV.agg (nGSetup a1), I a2] [(1000, ⟨2, ty_mark_Dice, [nGmarkDice a0], true⟩)] = some y :=
  callw_tree R_mark_Dice_Full zT [] rfl (by kernel_rfl) (by kernel_rfl) (by kernel_rfl) (by kernel_rfl) (by kernel_rfl) h

theorem e_mark_Dice_Rule (a0 : GmarkDice) {y : AV × Mem} (h : (
  callD r_mark_Dice_Bool (cw f_mark_Dice_Bool [AV.loc 1000 2 0 0, I 2] [(1000, ⟨2, ty_mark_Dice, [nGmarkDice a0], true⟩)]) fun (r0 : Bool × GmarkDice) =>
  callD r_mark_Dice_Next (cw f_mark_Dice_Next [AV.loc 1000 2 0 0, I 3] [(1000, ⟨2, ty_mark_Dice, [nGmarkDice r0.snd], true⟩)]) fun (r1 : Int × GmarkDice) =>
  some (AV.agg (nGMarkRule (⟨r0.fst, r1.fst⟩)), [(1000, ⟨2, ty_mark_Dice, [nGmarkDice r1.snd], true⟩)])) = some y) : cw f_mark_Dice_Rule [AV.loc 1000 2 0 0] [(1000, ⟨2, ty_mark_Dice, [nGmarkDice a0], true⟩)] = some y :=
  callw_tree R_mark_Dice_Rule zT [] rfl (by kernel_rfl) (by kernel_rfl) (by kernel_rfl) (by kernel_rfl) (by kernel_rfl) h

theorem e_mark_Dice_Pick (a0 : GmarkDice) (a1 : List Int) {y : AV × Mem} (h : (
  callD r_mark_Dice_Next (cw f_mark_Dice_Next [AV.loc 1000 2 0 0, I ((↑(List.map nI_i64 a1).length : Int))] [(1000, ⟨2, ty_mark_Dice, [nGmarkDice a0], true⟩)]) fun (r0 : Int × GmarkDice) =>
  chk (0 ≤ r0.fst) <|
  elemD dI_i64 (List.map nI_i64 a1) (Int.toNat r0.fst) fun (c1 : Int) =>
  some (I c1, [(1000, ⟨2, ty_mark_Dice, [nGmarkDice r0.snd], true⟩)])) = some y) : cw f_mark_Dice_Pick [AV.loc 1000 2 0 0, AV.sl 1 (List.map nI_i64 a1)] [(1000, ⟨2, ty_mark_Dice, [nGmarkDice a0], true⟩)] = some y :=
  callw_tree R_mark_Dice_Pick zT [] rfl (by kernel_rfl) (by kernel_rfl) (by kernel_rfl) (by kernel_rfl) (by kernel_rfl) h

theorem e_arbitration_Check (a0 : GMarkRule) {y : AV × Mem} (h : (
  brn (decide (a0.Tolerance < 0)) (some (I 2, []))
  (brn (decide (40 < a0.Tolerance)) (some (I 2, []))
   (some (I 0, [])))) = some y) : cw f_arbitration_Check [AV.agg (nGMarkRule a0)] [] = some y :=
  callw_tree R_arbitration_Check zT [] rfl (by kernel_rfl) (by kernel_rfl) (by kernel_rfl) (by kernel_rfl) (by kernel_rfl) h

theorem e_ref30_Check (a0 : GMarkRule) {y : AV × Mem} (h : (
  brn (decide (a0.Tolerance < 0)) (some (I 2, []))
  (brn (decide (40 < a0.Tolerance)) (some (I 2, []))
   (some (I 0, [])))) = some y) : cw f_ref30_Check [AV.agg (nGMarkRule a0)] [] = some y :=
  callw_tree R_ref30_Check zT [] rfl (by kernel_rfl) (by kernel_rfl) (by kernel_rfl) (by kernel_rfl) (by kernel_rfl) h

noncomputable def k_law30_few_1 (x1 : List (List AV)) (x2 : GmarkDice) (x3 : Int) : Option (AV × Mem) := pt R_law30_few 1 ⟨[(0, AV.loc 1000 2 0 0), (3, AV.row 3 8 0 (List.length x1)), (4, I x3)], [(3, ⟨8, ty_api_Given, x1, false⟩), (1000, ⟨2, ty_mark_Dice, [nGmarkDice x2], true⟩)]⟩

theorem t_law30_few_1 (x1 : List (List AV)) (x2 : GmarkDice) (x3 : Int) {y : AV × Mem} (h : (
  brn (decide (0 < x3)) (callD r_mark_Dice_Pick (cw f_mark_Dice_Pick [AV.loc 1000 2 0 0, AV.sl 1 (List.map nI_i64 ([1, 1, 1, 2, 3]))] [(1000, ⟨2, ty_mark_Dice, [nGmarkDice x2], true⟩)]) fun (r4 : Int × GmarkDice) =>
   callD r_mark_Dice_Next (cw f_mark_Dice_Next [AV.loc 1000 2 0 0, I 8] [(1000, ⟨2, ty_mark_Dice, [nGmarkDice r4.snd], true⟩)]) fun (r5 : Int × GmarkDice) =>
   callD r_mark_Dice_Next (cw f_mark_Dice_Next [AV.loc 1000 2 0 0, I 9] [(1000, ⟨2, ty_mark_Dice, [nGmarkDice r5.snd], true⟩)]) fun (r6 : Int × GmarkDice) =>
   chk (x1.length = x1.length) <|
   chk ((x1.length + 1) * (64 + 1) ≤ 1099511627776) <|
   chk ((x1 ++ [[AV.v (Go.Value.int IntKind.i64 0), AV.v (Go.Value.int IntKind.i64 0), AV.v (Go.Value.int IntKind.i64 (w64 (10 - x3))), AV.v (Go.Value.int IntKind.i64 r4.fst), AV.v (Go.Value.int IntKind.i64 (w64 (r5.fst - 1))), AV.v (Go.Value.int IntKind.i64 r6.fst), AV.v (Go.Value.int IntKind.i64 (w64 (10 - x3))), AV.v (Go.Value.int IntKind.i64 x3)]]).length = (x1 ++ [[AV.v (Go.Value.int IntKind.i64 0), AV.v (Go.Value.int IntKind.i64 0), AV.v (Go.Value.int IntKind.i64 (w64 (10 - x3))), AV.v (Go.Value.int IntKind.i64 r4.fst), AV.v (Go.Value.int IntKind.i64 (w64 (r5.fst - 1))), AV.v (Go.Value.int IntKind.i64 r6.fst), AV.v (Go.Value.int IntKind.i64 (w64 (10 - x3))), AV.v (Go.Value.int IntKind.i64 x3)]]).length) <|
   k_law30_few_1 (x1 ++ ([nGGiven (⟨0, 0, w64 (10 - x3), r4.fst, w64 (r5.fst - 1), ⟨r6.fst, w64 (10 - x3), x3⟩⟩)])) r6.snd (w64 (x3 - 1)))
  (chk (x1.length = x1.length) <|
   some (AV.new 8 ty_api_Given x1, [(1000, ⟨2, ty_mark_Dice, [nGmarkDice x2], true⟩)]))) = some y) : k_law30_few_1 x1 x2 x3 = some y :=
  pt_of zT [] (by kernel_rfl) h

theorem e_law30_few (a0 : GmarkDice) {y : AV × Mem} (h : (
  callD r_mark_Dice_Next (cw f_mark_Dice_Next [AV.loc 1000 2 0 0, I 5] [(1000, ⟨2, ty_mark_Dice, [nGmarkDice a0], true⟩)]) fun (r0 : Int × GmarkDice) =>
  k_law30_few_1 [] r0.snd r0.fst) = some y) : cw f_law30_few [AV.loc 1000 2 0 0] [(1000, ⟨2, ty_mark_Dice, [nGmarkDice a0], true⟩)] = some y :=
  callw_tree R_law30_few zT [] rfl (by kernel_rfl) (by kernel_rfl) (by kernel_rfl) (by kernel_rfl) (by kernel_rfl) h

noncomputable def k_arbitration_Decide_1 (a0 : GMarkRule) (a1 : List GGiven) (x8 : Int) (x9 : Int) (x10 : Int) : Option (AV × Mem) := pt R_arbitration_Decide 1 ⟨[(1, AV.sl 8 (List.map nGGiven a1)), (2, AV.loc 2 2 0 0), (4, AV.loc 4 2 0 0), (7, I x8), (8, I x9), (43, AV.sl 8 (List.map nGGiven a1)), (44, I ((↑(List.map nGGiven a1).length : Int))), (45, I x10)], [(2, ⟨2, ty_api_MarkRule, [nGMarkRule a0], true⟩), (4, ⟨2, ty_api_Verdict, [nGVerdict (⟨0, 0⟩)], true⟩)]⟩

theorem t_arbitration_Decide_1 (a0 : GMarkRule) (a1 : List GGiven) (x8 : Int) (x9 : Int) (x10 : Int) {y : AV × Mem} (h : (
  brn (decide (x10 < (↑(List.map nGGiven a1).length : Int))) (chk ((0 : Int) ≤ x10) <|
   elemD dGGiven (List.map nGGiven a1) x10.toNat fun (c11 : GGiven) =>
   callD r_arbitration_worth (cw f_arbitration_worth [AV.agg (nGGiven c11)] []) fun (r12 : Int) =>
   callD r_arbitration_worth (cw f_arbitration_worth [AV.agg (nGGiven c11)] []) fun (r13 : Int) =>
   k_arbitration_Decide_1 a0 a1 (if r12 < x8 then r12 else x8) (if r13 > x9 then r13 else x9) (w64 (x10 + 1)))
  (brn (decide (a0.Tolerance < w64 (x9 - x8))) (some (AV.agg (nGVerdict (⟨2, 0⟩)), []))
   (callD r_arbitration_mean (cw f_arbitration_mean [AV.sl 8 (List.map nGGiven a1)] []) fun (r14 : Int) =>
    some (AV.agg (nGVerdict (⟨3, r14⟩)), [])))) = some y) : k_arbitration_Decide_1 a0 a1 x8 x9 x10 = some y :=
  pt_of zT [] (by kernel_rfl) h

theorem e_arbitration_Decide (a0 : GMarkRule) (a1 : List GGiven) {y : AV × Mem} (h : (
  callD r_arbitration_decisive (cw f_arbitration_decisive [AV.sl 8 (List.map nGGiven a1)] []) fun (r0 : GGiven × Bool) =>
  brn r0.snd (callD r_arbitration_worth (cw f_arbitration_worth [AV.agg (nGGiven r0.fst)] []) fun (r1 : Int) =>
   some (AV.agg (nGVerdict (⟨3, r1⟩)), []))
  (brn ((↑(List.map nGGiven a1).length : Int) == 0) (some (AV.agg (nGVerdict (⟨0, 0⟩)), []))
   (brn ((↑(List.map nGGiven a1).length : Int) == 1) (brn a0.Double (some (AV.agg (nGVerdict (⟨1, 0⟩)), []))
     (chk ((0 : Int) ≤ 0) <|
      elemD dGGiven (List.map nGGiven a1) (Int.toNat 0) fun (c2 : GGiven) =>
      callD r_arbitration_worth (cw f_arbitration_worth [AV.agg (nGGiven c2)] []) fun (r3 : Int) =>
      some (AV.agg (nGVerdict (⟨3, r3⟩)), [])))
    (chk ((0 : Int) ≤ 0) <|
     elemD dGGiven (List.map nGGiven a1) (Int.toNat 0) fun (c4 : GGiven) =>
     callD r_arbitration_worth (cw f_arbitration_worth [AV.agg (nGGiven c4)] []) fun (r5 : Int) =>
     chk ((0 : Int) ≤ 0) <|
     elemD dGGiven (List.map nGGiven a1) (Int.toNat 0) fun (c6 : GGiven) =>
     callD r_arbitration_worth (cw f_arbitration_worth [AV.agg (nGGiven c6)] []) fun (r7 : Int) =>
     k_arbitration_Decide_1 a0 a1 r5 r7 0)))) = some y) : cw f_arbitration_Decide [AV.agg (nGMarkRule a0), AV.sl 8 (List.map nGGiven a1)] [] = some y :=
  callw_tree R_arbitration_Decide zT [] rfl (by kernel_rfl) (by kernel_rfl) (by kernel_rfl) (by kernel_rfl) (by kernel_rfl) h

noncomputable def k_ref30_Decide_1 (a0 : GMarkRule) (a1 : List GGiven) (x0 : Int) (x1 : Int) : Option (AV × Mem) := pt R_ref30_Decide 1 ⟨[(1, AV.sl 8 (List.map nGGiven a1)), (2, AV.loc 2 2 0 0), (4, AV.loc 4 2 0 0), (5, I x0), (6, I x1)], [(2, ⟨2, ty_api_MarkRule, [nGMarkRule a0], true⟩), (4, ⟨2, ty_api_Verdict, [nGVerdict (⟨0, 0⟩)], true⟩)]⟩

noncomputable def k_ref30_Decide_2 (a0 : GMarkRule) (a1 : List GGiven) (x12 : Int) (x13 : Int) (x14 : Int) (x15 : Int) : Option (AV × Mem) := pt R_ref30_Decide 2 ⟨[(1, AV.sl 8 (List.map nGGiven a1)), (2, AV.loc 2 2 0 0), (4, AV.loc 4 2 0 0), (7, I x12), (8, I x13), (9, I x14), (10, I x15)], [(2, ⟨2, ty_api_MarkRule, [nGMarkRule a0], true⟩), (4, ⟨2, ty_api_Verdict, [nGVerdict (⟨0, 0⟩)], true⟩)]⟩

theorem t_ref30_Decide_1 (a0 : GMarkRule) (a1 : List GGiven) (x0 : Int) (x1 : Int) {y : AV × Mem} (h : (
  brn (decide (x1 < (↑(List.map nGGiven a1).length : Int))) (chk ((0 : Int) ≤ x1) <|
   elemD dGGiven (List.map nGGiven a1) x1.toNat fun (c2 : GGiven) =>
   brn (decide (2 ≤ c2.Level)) (brn (decide (x0 < 0)) (k_ref30_Decide_1 a0 a1 x1 (w64 (x1 + 1)))
    (chk ((0 : Int) ≤ x1) <|
     elemD dGGiven (List.map nGGiven a1) x1.toNat fun (c3 : GGiven) =>
     chk ((0 : Int) ≤ x0) <|
     elemD dGGiven (List.map nGGiven a1) x0.toNat fun (c4 : GGiven) =>
     brn (decide (c4.Level < c3.Level)) (k_ref30_Decide_1 a0 a1 x1 (w64 (x1 + 1)))
     (chk ((0 : Int) ≤ x1) <|
      elemD dGGiven (List.map nGGiven a1) x1.toNat fun (c5 : GGiven) =>
      chk ((0 : Int) ≤ x0) <|
      elemD dGGiven (List.map nGGiven a1) x0.toNat fun (c6 : GGiven) =>
      brn (c5.Level == c6.Level) (chk ((0 : Int) ≤ x1) <|
       elemD dGGiven (List.map nGGiven a1) x1.toNat fun (c7 : GGiven) =>
       chk ((0 : Int) ≤ x0) <|
       elemD dGGiven (List.map nGGiven a1) x0.toNat fun (c8 : GGiven) =>
       callD r_ref28_Less (cw f_ref28_Less [AV.agg (nGStamp c7.Stamp), AV.agg (nGStamp c8.Stamp)] []) fun (r9 : Bool) =>
       brn (!r9) (k_ref30_Decide_1 a0 a1 x1 (w64 (x1 + 1)))
       (k_ref30_Decide_1 a0 a1 x0 (w64 (x1 + 1))))
      (k_ref30_Decide_1 a0 a1 x0 (w64 (x1 + 1))))))
   (k_ref30_Decide_1 a0 a1 x0 (w64 (x1 + 1))))
  (brn (decide (0 ≤ x0)) (chk ((0 : Int) ≤ x0) <|
    elemD dGGiven (List.map nGGiven a1) x0.toNat fun (c10 : GGiven) =>
    some (AV.agg (nGVerdict (⟨3, if 0 > c10.Value then 0 else c10.Value⟩)), []))
   (brn ((↑(List.map nGGiven a1).length : Int) == 0) (some (AV.agg (nGVerdict (⟨0, 0⟩)), []))
    (brn ((↑(List.map nGGiven a1).length : Int) == 1) (brn a0.Double (some (AV.agg (nGVerdict (⟨1, 0⟩)), []))
      (chk ((0 : Int) ≤ 0) <|
       elemD dGGiven (List.map nGGiven a1) (Int.toNat 0) fun (c11 : GGiven) =>
       k_ref30_Decide_2 a0 a1 0 (if 0 > c11.Value then 0 else c11.Value) 0 0))
     (chk ((0 : Int) ≤ 0) <|
      elemD dGGiven (List.map nGGiven a1) (Int.toNat 0) fun (c16 : GGiven) =>
      k_ref30_Decide_2 a0 a1 0 (if 0 > c16.Value then 0 else c16.Value) 0 0))))) = some y) : k_ref30_Decide_1 a0 a1 x0 x1 = some y :=
  pt_of zT [] (by kernel_rfl) h

theorem t_ref30_Decide_2 (a0 : GMarkRule) (a1 : List GGiven) (x12 : Int) (x13 : Int) (x14 : Int) (x15 : Int) {y : AV × Mem} (h : (
  brn (decide (x15 < (↑(List.map nGGiven a1).length : Int))) (chk ((0 : Int) ≤ x15) <|
   elemD dGGiven (List.map nGGiven a1) x15.toNat fun (c17 : GGiven) =>
   k_ref30_Decide_2 a0 a1 (w64 (x12 + if 0 > c17.Value then 0 else c17.Value)) (if (if 0 > c17.Value then 0 else c17.Value) < x13 then if 0 > c17.Value then 0 else c17.Value else x13) (if (if 0 > c17.Value then 0 else c17.Value) > x14 then if 0 > c17.Value then 0 else c17.Value else x14) (w64 (x15 + 1)))
  (brn (decide (1 < (↑(List.map nGGiven a1).length : Int))) (brn (decide (a0.Tolerance < w64 (x14 - x13))) (some (AV.agg (nGVerdict (⟨2, 0⟩)), []))
    (chk ((w64 (2 * (↑(List.map nGGiven a1).length : Int)) : Int) ≠ 0) <|
     some (AV.agg (nGVerdict (⟨3, w64 ((w64 (w64 (2 * x12) + (↑(List.map nGGiven a1).length : Int))).tdiv (w64 (2 * (↑(List.map nGGiven a1).length : Int))))⟩)), [])))
   (chk ((w64 (2 * (↑(List.map nGGiven a1).length : Int)) : Int) ≠ 0) <|
    some (AV.agg (nGVerdict (⟨3, w64 ((w64 (w64 (2 * x12) + (↑(List.map nGGiven a1).length : Int))).tdiv (w64 (2 * (↑(List.map nGGiven a1).length : Int))))⟩)), [])))) = some y) : k_ref30_Decide_2 a0 a1 x12 x13 x14 x15 = some y :=
  pt_of zT [] (by kernel_rfl) h

theorem e_ref30_Decide (a0 : GMarkRule) (a1 : List GGiven) {y : AV × Mem} (h : (
  k_ref30_Decide_1 a0 a1 (-1) 0) = some y) : cw f_ref30_Decide [AV.agg (nGMarkRule a0), AV.sl 8 (List.map nGGiven a1)] [] = some y :=
  callw_tree R_ref30_Decide zT [] rfl (by kernel_rfl) (by kernel_rfl) (by kernel_rfl) (by kernel_rfl) (by kernel_rfl) h

noncomputable def k_arbitration_Open_1 (a0 : GMarkRule) (a1 : GSetup) (a2 : GMarking) (x1 : List (List AV)) (x2 : Int) : Option (AV × Mem) := pt R_arbitration_Open 1 ⟨[(3, AV.loc 3 2 0 0), (4, AV.loc 4 9 0 0), (5, AV.loc 5 2 0 0), (8, AV.row 8 2 0 (List.length x1)), (18, AV.sl 7 (List.map nGScript a1.Scripts)), (19, I ((↑(List.map nGScript a1.Scripts).length : Int))), (20, I x2)], [(3, ⟨2, ty_api_MarkRule, [nGMarkRule a0], true⟩), (4, ⟨9, ty_api_Setup, [nGSetup a1], true⟩), (5, ⟨2, ty_api_Marking, [nGMarking a2], true⟩), (8, ⟨2, ty_A2_i64, x1, false⟩)]⟩

noncomputable def k_arbitration_Open_2 (a0 : GMarkRule) (a1 : GSetup) (a2 : GMarking) (x2 : Int) (c3 : GScript) (r4 : (List GVerdict)) (x5 : List (List AV)) (x6 : Int) : Option (AV × Mem) := pt R_arbitration_Open 2 ⟨[(3, AV.loc 3 2 0 0), (4, AV.loc 4 9 0 0), (5, AV.loc 5 2 0 0), (8, AV.row 8 2 0 (List.length x5)), (10, AV.loc 10 7 0 0), (18, AV.sl 7 (List.map nGScript a1.Scripts)), (19, I ((↑(List.map nGScript a1.Scripts).length : Int))), (20, I x2), (28, AV.row 28 2 0 (List.length (List.map nGVerdict r4))), (29, I ((↑(List.map nGVerdict r4).length : Int))), (30, I x6)], [(3, ⟨2, ty_api_MarkRule, [nGMarkRule a0], true⟩), (4, ⟨9, ty_api_Setup, [nGSetup a1], true⟩), (5, ⟨2, ty_api_Marking, [nGMarking a2], true⟩), (8, ⟨2, ty_A2_i64, x5, false⟩), (10, ⟨7, ty_api_Script, [nGScript c3], true⟩), (28, ⟨2, ty_api_Verdict, List.map nGVerdict r4, false⟩)]⟩

theorem t_arbitration_Open_1 (a0 : GMarkRule) (a1 : GSetup) (a2 : GMarking) (x1 : List (List AV)) (x2 : Int) {y : AV × Mem} (h : (
  brn (decide (x2 < (↑(List.map nGScript a1.Scripts).length : Int))) (chk ((0 : Int) ≤ x2) <|
   elemD dGScript (List.map nGScript a1.Scripts) x2.toNat fun (c3 : GScript) =>
   callD r_arbitration_verdicts (cw f_arbitration_verdicts [AV.agg (nGMarkRule a0), AV.agg (nGSetup a1), AV.agg (nGMarking a2), AV.agg (nGScript c3)] []) fun (r4 : (List GVerdict)) =>
   k_arbitration_Open_2 a0 a1 a2 x2 c3 r4 x1 0)
  (chk (0 + x1.length ≤ x1.length) <|
   some (AV.tup [AV.sl 2 (List.take x1.length x1), I 0], []))) = some y) : k_arbitration_Open_1 a0 a1 a2 x1 x2 = some y :=
  pt_of zT [] (by kernel_rfl) h

theorem t_arbitration_Open_2 (a0 : GMarkRule) (a1 : GSetup) (a2 : GMarking) (x2 : Int) (c3 : GScript) (r4 : (List GVerdict)) (x5 : List (List AV)) (x6 : Int) {y : AV × Mem} (h : (
  brn (decide (x6 < (↑(List.map nGVerdict r4).length : Int))) (chk ((0 : Int) ≤ x6) <|
   chk ((x6 : Int) < ((↑(List.map nGVerdict r4).length : Int))) <|
   elemD dGVerdict (List.map nGVerdict r4) (0 + x6.toNat) fun (c7 : GVerdict) =>
   brn (c7.State != 3) (chk (x5.length = x5.length) <|
    chk ((x5.length + 1) * (16 + 1) ≤ 1099511627776) <|
    chk ((x5 ++ [[AV.v (Go.Value.int IntKind.i64 c3.Number), AV.v (Go.Value.int IntKind.i64 x6)]]).length = (x5 ++ [[AV.v (Go.Value.int IntKind.i64 c3.Number), AV.v (Go.Value.int IntKind.i64 x6)]]).length) <|
    k_arbitration_Open_2 a0 a1 a2 x2 c3 r4 (x5 ++ ([[I c3.Number, I x6]])) (w64 (x6 + 1)))
   (k_arbitration_Open_2 a0 a1 a2 x2 c3 r4 x5 (w64 (x6 + 1))))
  (k_arbitration_Open_1 a0 a1 a2 x5 (w64 (x2 + 1)))) = some y) : k_arbitration_Open_2 a0 a1 a2 x2 c3 r4 x5 x6 = some y :=
  pt_of zT [] (by kernel_rfl) h

theorem e_arbitration_Open (a0 : GMarkRule) (a1 : GSetup) (a2 : GMarking) {y : AV × Mem} (h : (
  callD r_arbitration_right (cw f_arbitration_right [AV.agg (nGMarkRule a0), AV.agg (nGSetup a1)] []) fun (r0 : Bool) =>
  brn (!r0) (some (AV.tup [AV.sl 2 (List.map nA2_I_i64 []), I 1], []))
  (k_arbitration_Open_1 a0 a1 a2 [] 0)) = some y) : cw f_arbitration_Open [AV.agg (nGMarkRule a0), AV.agg (nGSetup a1), AV.agg (nGMarking a2)] [] = some y :=
  callw_tree R_arbitration_Open zT [] rfl (by kernel_rfl) (by kernel_rfl) (by kernel_rfl) (by kernel_rfl) (by kernel_rfl) h

noncomputable def k_ref30_Open_1 (a0 : GMarkRule) (a1 : GSetup) (a2 : GMarking) (x2 : List (List AV)) (x3 : Int) : Option (AV × Mem) := pt R_ref30_Open 1 ⟨[(3, AV.loc 3 2 0 0), (4, AV.loc 4 9 0 0), (5, AV.loc 5 2 0 0), (8, AV.row 8 2 0 (List.length x2)), (9, I x3)], [(3, ⟨2, ty_api_MarkRule, [nGMarkRule a0], true⟩), (4, ⟨9, ty_api_Setup, [nGSetup a1], true⟩), (5, ⟨2, ty_api_Marking, [nGMarking a2], true⟩), (8, ⟨2, ty_A2_i64, x2, false⟩)]⟩

noncomputable def k_ref30_Open_2 (a0 : GMarkRule) (a1 : GSetup) (a2 : GMarking) (x3 : Int) (r5 : (List GVerdict) × Int) (x6 : List (List AV)) (x7 : Int) : Option (AV × Mem) := pt R_ref30_Open 2 ⟨[(3, AV.loc 3 2 0 0), (4, AV.loc 4 9 0 0), (5, AV.loc 5 2 0 0), (8, AV.row 8 2 0 (List.length x6)), (9, I x3), (10, AV.sl 2 (List.map nGVerdict r5.fst)), (12, I x7)], [(3, ⟨2, ty_api_MarkRule, [nGMarkRule a0], true⟩), (4, ⟨9, ty_api_Setup, [nGSetup a1], true⟩), (5, ⟨2, ty_api_Marking, [nGMarking a2], true⟩), (8, ⟨2, ty_A2_i64, x6, false⟩)]⟩

theorem t_ref30_Open_1 (a0 : GMarkRule) (a1 : GSetup) (a2 : GMarking) (x2 : List (List AV)) (x3 : Int) {y : AV × Mem} (h : (
  brn (decide (x3 < (↑(List.map nGScript a1.Scripts).length : Int))) (chk ((0 : Int) ≤ x3) <|
   elemD dGScript (List.map nGScript a1.Scripts) x3.toNat fun (c4 : GScript) =>
   callD r_ref30_Verdicts (cw f_ref30_Verdicts [AV.agg (nGMarkRule a0), AV.agg (nGSetup a1), AV.agg (nGMarking a2), I c4.Number] []) fun (r5 : (List GVerdict) × Int) =>
   k_ref30_Open_2 a0 a1 a2 x3 r5 x2 0)
  (chk (0 + x2.length ≤ x2.length) <|
   some (AV.tup [AV.sl 2 (List.take x2.length x2), I 0], []))) = some y) : k_ref30_Open_1 a0 a1 a2 x2 x3 = some y :=
  pt_of zT [] (by kernel_rfl) h

theorem t_ref30_Open_2 (a0 : GMarkRule) (a1 : GSetup) (a2 : GMarking) (x3 : Int) (r5 : (List GVerdict) × Int) (x6 : List (List AV)) (x7 : Int) {y : AV × Mem} (h : (
  brn (decide (x7 < (↑(List.map nGVerdict r5.fst).length : Int))) (chk ((0 : Int) ≤ x7) <|
   elemD dGVerdict (List.map nGVerdict r5.fst) x7.toNat fun (c8 : GVerdict) =>
   brn (c8.State != 3) (chk ((0 : Int) ≤ x3) <|
    elemD dGScript (List.map nGScript a1.Scripts) x3.toNat fun (c9 : GScript) =>
    chk (x6.length = x6.length) <|
    chk ((x6.length + 1) * (16 + 1) ≤ 1099511627776) <|
    chk ((x6 ++ [[AV.v (Go.Value.int IntKind.i64 c9.Number), AV.v (Go.Value.int IntKind.i64 x7)]]).length = (x6 ++ [[AV.v (Go.Value.int IntKind.i64 c9.Number), AV.v (Go.Value.int IntKind.i64 x7)]]).length) <|
    k_ref30_Open_2 a0 a1 a2 x3 r5 (x6 ++ ([[I c9.Number, I x7]])) (w64 (x7 + 1)))
   (k_ref30_Open_2 a0 a1 a2 x3 r5 x6 (w64 (x7 + 1))))
  (k_ref30_Open_1 a0 a1 a2 x6 (w64 (x3 + 1)))) = some y) : k_ref30_Open_2 a0 a1 a2 x3 r5 x6 x7 = some y :=
  pt_of zT [] (by kernel_rfl) h

theorem e_ref30_Open (a0 : GMarkRule) (a1 : GSetup) (a2 : GMarking) {y : AV × Mem} (h : (
  callD r_ref29_Check (cw f_ref29_Check [AV.agg (nGSetup a1)] []) fun (r0 : Int) =>
  brn (r0 != 0) (some (AV.tup [AV.sl 2 (List.map nA2_I_i64 []), I 1], []))
  (callD r_ref30_Check (cw f_ref30_Check [AV.agg (nGMarkRule a0)] []) fun (r1 : Int) =>
   brn (r1 != 0) (some (AV.tup [AV.sl 2 (List.map nA2_I_i64 []), I 1], []))
   (k_ref30_Open_1 a0 a1 a2 [] 0))) = some y) : cw f_ref30_Open [AV.agg (nGMarkRule a0), AV.agg (nGSetup a1), AV.agg (nGMarking a2)] [] = some y :=
  callw_tree R_ref30_Open zT [] rfl (by kernel_rfl) (by kernel_rfl) (by kernel_rfl) (by kernel_rfl) (by kernel_rfl) h

theorem e_mark_Dice_Next (a0 : GmarkDice) (a1 : Int) {y : AV × Mem} (h : (
  brn (decide ((↑(List.map nI_i64 a0.L).length : Int) ≤ a0.At)) (some (I 0, [(1000, ⟨2, ty_mark_Dice, [nGmarkDice a0], true⟩)]))
  (brn (decide (a1 < 1)) (some (I 0, [(1000, ⟨2, ty_mark_Dice, [nGmarkDice a0], true⟩)]))
   (chk ((0 : Int) ≤ a0.At) <|
    elemD dI_i64 (List.map nI_i64 a0.L) a0.At.toNat fun (c0 : Int) =>
    chk ((a1 : Int) ≠ 0) <|
    brn (decide (Int.tmod c0 a1 < 0)) (some (I (w64 (Int.tmod c0 a1 + a1)), [(1000, ⟨2, ty_mark_Dice, [nGmarkDice (⟨a0.L, w64 (a0.At + 1)⟩)], true⟩)]))
    (some (I (Int.tmod c0 a1), [(1000, ⟨2, ty_mark_Dice, [nGmarkDice (⟨a0.L, w64 (a0.At + 1)⟩)], true⟩)]))))) = some y) : cw f_mark_Dice_Next [AV.loc 1000 2 0 0, I a1] [(1000, ⟨2, ty_mark_Dice, [nGmarkDice a0], true⟩)] = some y :=
  callw_tree R_mark_Dice_Next zT [] rfl (by kernel_rfl) (by kernel_rfl) (by kernel_rfl) (by kernel_rfl) (by kernel_rfl) h

noncomputable def k_arbitration_Verdicts_1 (a0 : GMarkRule) (a1 : GSetup) (a2 : GMarking) (a3 : Int) (x1 : Int) : Option (AV × Mem) := pt R_arbitration_Verdicts 1 ⟨[(3, I a3), (4, AV.loc 4 2 0 0), (5, AV.loc 5 9 0 0), (6, AV.loc 6 2 0 0), (17, AV.sl 7 (List.map nGScript a1.Scripts)), (18, I ((↑(List.map nGScript a1.Scripts).length : Int))), (19, I x1)], [(4, ⟨2, ty_api_MarkRule, [nGMarkRule a0], true⟩), (5, ⟨9, ty_api_Setup, [nGSetup a1], true⟩), (6, ⟨2, ty_api_Marking, [nGMarking a2], true⟩)]⟩

theorem t_arbitration_Verdicts_1 (a0 : GMarkRule) (a1 : GSetup) (a2 : GMarking) (a3 : Int) (x1 : Int) {y : AV × Mem} (h : (
  brn (decide (x1 < (↑(List.map nGScript a1.Scripts).length : Int))) (chk ((0 : Int) ≤ x1) <|
   elemD dGScript (List.map nGScript a1.Scripts) x1.toNat fun (c2 : GScript) =>
   brn (c2.Number == a3) (callD r_arbitration_verdicts (cw f_arbitration_verdicts [AV.agg (nGMarkRule a0), AV.agg (nGSetup a1), AV.agg (nGMarking a2), AV.agg (nGScript c2)] []) fun (r3 : (List GVerdict)) =>
    chk (0 + (List.map nGVerdict r3).length ≤ (List.map nGVerdict r3).length) <|
    some (AV.tup [AV.sl 2 (List.take ((List.map nGVerdict r3).length) (List.map nGVerdict r3)), I 0], []))
   (k_arbitration_Verdicts_1 a0 a1 a2 a3 (w64 (x1 + 1))))
  (some (AV.tup [AV.sl 2 (List.map nGVerdict []), I 4], []))) = some y) : k_arbitration_Verdicts_1 a0 a1 a2 a3 x1 = some y :=
  pt_of zT [] (by kernel_rfl) h

theorem e_arbitration_Verdicts (a0 : GMarkRule) (a1 : GSetup) (a2 : GMarking) (a3 : Int) {y : AV × Mem} (h : (
  callD r_arbitration_right (cw f_arbitration_right [AV.agg (nGMarkRule a0), AV.agg (nGSetup a1)] []) fun (r0 : Bool) =>
  brn (!r0) (some (AV.tup [AV.sl 2 (List.map nGVerdict []), I 1], []))
  (k_arbitration_Verdicts_1 a0 a1 a2 a3 0)) = some y) : cw f_arbitration_Verdicts [AV.agg (nGMarkRule a0), AV.agg (nGSetup a1), AV.agg (nGMarking a2), I a3] [] = some y :=
  callw_tree R_arbitration_Verdicts zT [] rfl (by kernel_rfl) (by kernel_rfl) (by kernel_rfl) (by kernel_rfl) (by kernel_rfl) h

end Go.Proofs.YtdhibifcofaioaaGreat
