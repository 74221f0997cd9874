/- What the functions compute, between two cut points: printed by a program, checked by the kernel. -/
import Derived.Test.YtdhibifcofaioaaGreatAnn
namespace Go.Proofs.YtdhibifcofaioaaGreat
open Go.Ab
set_option maxRecDepth 100000
set_option linter.unusedVariables false

noncomputable def k_ref29_watch_1 (a0 : GSetup) (a1 : List GMarkEvent) (a2 : Int) (x0 : List (List AV)) (x1 : GWatch) (x2 : GStamp) (x3 : List (List AV)) (x4 : List (List AV)) (x5 : Bool) (x6 : Int) : Option (AV × Mem) := pt R_ref29_watch 1 ⟨[(1, AV.sl 9 (List.map nGMarkEvent a1)), (2, I a2), (3, AV.loc 3 9 0 0), (8, AV.row 28 1 0 ((List.replicate (↑(List.map nGMarkEvent a1).length : Int).toNat (AV.v (Go.Value.bool false) :: List.map AV.v [])).length)), (9, AV.row 9 12 0 (List.length x0)), (10, AV.loc 10 2 0 0), (11, AV.map 29), (12, AV.loc 12 3 0 0), (13, B x5), (14, I 0), (15, I x6)], [(3, ⟨9, ty_api_Setup, [nGSetup a0], true⟩), (9, ⟨12, ty_api_Suspension, x0, false⟩), (10, ⟨2, ty_api_Watch, [nGWatch x1], true⟩), (12, ⟨3, ty_api_Stamp, [nGStamp x2], true⟩), (28, ⟨1, ty_bool, x3, false⟩), (29, ⟨0, ty_M_i64_L_ref29_noted, x4, false⟩)]⟩

noncomputable def k_ref29_watch_1008 (a0 : GSetup) (a1 : List GMarkEvent) (a2 : Int) (x10 : List (List AV)) (x11 : GWatch) (x12 : GStamp) (x13 : List (List AV)) (x14 : List (List AV)) (x15 : Nat) (x16 : Bool) (x17 : Int) (x18 : Int) : Option (AV × Mem) := pt R_ref29_watch 1008 ⟨[(1, AV.sl 9 (List.map nGMarkEvent a1)), (2, I a2), (3, AV.loc 3 9 0 0), (8, AV.row 28 1 0 ((List.replicate (↑(List.map nGMarkEvent a1).length : Int).toNat (AV.v (Go.Value.bool false) :: List.map AV.v [])).length)), (9, AV.row 9 12 0 x15), (10, AV.loc 10 2 0 0), (11, AV.map 68), (12, AV.loc 12 3 0 0), (13, B x16), (14, I x17), (15, I x18)], [(3, ⟨9, ty_api_Setup, [nGSetup a0], true⟩), (9, ⟨12, ty_api_Suspension, x10, false⟩), (10, ⟨2, ty_api_Watch, [nGWatch x11], true⟩), (12, ⟨3, ty_api_Stamp, [nGStamp x12], true⟩), (28, ⟨1, ty_bool, x13, false⟩), (68, ⟨0, ty_M_i64_L_ref29_noted, x14, false⟩)]⟩

noncomputable def k_ref29_watch_1014 (a0 : GSetup) (a1 : List GMarkEvent) (a2 : Int) (x0 : List (List AV)) (x1 : GWatch) (x2 : GStamp) (x3 : List (List AV)) (x4 : List (List AV)) (x5 : Bool) (x6 : Int) (c7 : GMarkEvent) : Option (AV × Mem) := pt R_ref29_watch 1014 ⟨[(1, AV.sl 9 (List.map nGMarkEvent a1)), (2, I a2), (3, AV.loc 3 9 0 0), (8, AV.row 28 1 0 ((List.replicate (↑(List.map nGMarkEvent a1).length : Int).toNat (AV.v (Go.Value.bool false) :: List.map AV.v [])).length)), (9, AV.row 9 12 0 (List.length x0)), (10, AV.loc 10 2 0 0), (11, AV.map 29), (12, AV.loc 12 3 0 0), (13, B x5), (14, I 0), (15, I x6), (16, AV.loc 16 9 0 0), (53, B false)], [(3, ⟨9, ty_api_Setup, [nGSetup a0], true⟩), (9, ⟨12, ty_api_Suspension, x0, false⟩), (10, ⟨2, ty_api_Watch, [nGWatch x1], true⟩), (12, ⟨3, ty_api_Stamp, [nGStamp x2], true⟩), (16, ⟨9, ty_api_MarkEvent, [nGMarkEvent c7], true⟩), (28, ⟨1, ty_bool, x3, false⟩), (29, ⟨0, ty_M_i64_L_ref29_noted, x4, false⟩)]⟩

noncomputable def k_ref29_watch_1v1 (a0 : GSetup) (a1 : List GMarkEvent) (a2 : Int) (x12 : GStamp) (x16 : Bool) (x17 : Int) (x19 : List (List AV)) (x20 : GWatch) (x21 : List (List AV)) (x22 : List (List AV)) (x23 : Nat) (x24 : Int) : Option (AV × Mem) := pt R_ref29_watch 1 ⟨[(1, AV.sl 9 (List.map nGMarkEvent a1)), (2, I a2), (3, AV.loc 3 9 0 0), (8, AV.row 28 1 0 ((List.replicate (↑(List.map nGMarkEvent a1).length : Int).toNat (AV.v (Go.Value.bool false) :: List.map AV.v [])).length)), (9, AV.row 9 12 0 x23), (10, AV.loc 10 2 0 0), (11, AV.map 68), (12, AV.loc 12 3 0 0), (13, B x16), (14, I x17), (15, I x24)], [(3, ⟨9, ty_api_Setup, [nGSetup a0], true⟩), (9, ⟨12, ty_api_Suspension, x19, false⟩), (10, ⟨2, ty_api_Watch, [nGWatch x20], true⟩), (12, ⟨3, ty_api_Stamp, [nGStamp x12], true⟩), (28, ⟨1, ty_bool, x21, false⟩), (68, ⟨0, ty_M_i64_L_ref29_noted, x22, false⟩)]⟩

noncomputable def k_ref29_watch_1008v1 (a0 : GSetup) (a1 : List GMarkEvent) (a2 : Int) (x0 : List (List AV)) (x1 : GWatch) (x2 : GStamp) (x3 : List (List AV)) (x4 : List (List AV)) (x5 : Bool) (x6 : Int) (c7 : GMarkEvent) : Option (AV × Mem) := pt R_ref29_watch 1008 ⟨[(1, AV.sl 9 (List.map nGMarkEvent a1)), (2, I a2), (3, AV.loc 3 9 0 0), (8, AV.row 28 1 0 ((List.replicate (↑(List.map nGMarkEvent a1).length : Int).toNat (AV.v (Go.Value.bool false) :: List.map AV.v [])).length)), (9, AV.row 9 12 0 (List.length x0)), (10, AV.loc 10 2 0 0), (11, AV.map 29), (12, AV.loc 12 3 0 0), (13, B x5), (14, I 0), (15, I x6), (16, AV.loc 16 9 0 0), (81, B true)], [(3, ⟨9, ty_api_Setup, [nGSetup a0], true⟩), (9, ⟨12, ty_api_Suspension, x0, false⟩), (10, ⟨2, ty_api_Watch, [nGWatch x1], true⟩), (12, ⟨3, ty_api_Stamp, [nGStamp x2], true⟩), (16, ⟨9, ty_api_MarkEvent, [nGMarkEvent c7], true⟩), (28, ⟨1, ty_bool, x3, false⟩), (29, ⟨0, ty_M_i64_L_ref29_noted, x4, false⟩)]⟩

noncomputable def k_ref29_watch_1015 (a0 : GSetup) (a1 : List GMarkEvent) (a2 : Int) (x0 : List (List AV)) (x1 : GWatch) (x2 : GStamp) (x3 : List (List AV)) (x4 : List (List AV)) (x5 : Bool) (x6 : Int) (c7 : GMarkEvent) : Option (AV × Mem) := pt R_ref29_watch 1015 ⟨[(1, AV.sl 9 (List.map nGMarkEvent a1)), (2, I a2), (3, AV.loc 3 9 0 0), (8, AV.row 28 1 0 ((List.replicate (↑(List.map nGMarkEvent a1).length : Int).toNat (AV.v (Go.Value.bool false) :: List.map AV.v [])).length)), (9, AV.row 9 12 0 (List.length x0)), (10, AV.loc 10 2 0 0), (11, AV.map 29), (12, AV.loc 12 3 0 0), (13, B x5), (14, I 0), (15, I x6), (16, AV.loc 16 9 0 0), (81, B false)], [(3, ⟨9, ty_api_Setup, [nGSetup a0], true⟩), (9, ⟨12, ty_api_Suspension, x0, false⟩), (10, ⟨2, ty_api_Watch, [nGWatch x1], true⟩), (12, ⟨3, ty_api_Stamp, [nGStamp x2], true⟩), (16, ⟨9, ty_api_MarkEvent, [nGMarkEvent c7], true⟩), (28, ⟨1, ty_bool, x3, false⟩), (29, ⟨0, ty_M_i64_L_ref29_noted, x4, false⟩)]⟩

noncomputable def k_ref29_watch_1014v1 (a0 : GSetup) (a1 : List GMarkEvent) (a2 : Int) (x12 : GStamp) (x16 : Bool) (x17 : Int) (x19 : List (List AV)) (x20 : GWatch) (x21 : List (List AV)) (x22 : List (List AV)) (x23 : Nat) (x24 : Int) (c25 : GMarkEvent) : Option (AV × Mem) := pt R_ref29_watch 1014 ⟨[(1, AV.sl 9 (List.map nGMarkEvent a1)), (2, I a2), (3, AV.loc 3 9 0 0), (8, AV.row 28 1 0 ((List.replicate (↑(List.map nGMarkEvent a1).length : Int).toNat (AV.v (Go.Value.bool false) :: List.map AV.v [])).length)), (9, AV.row 9 12 0 x23), (10, AV.loc 10 2 0 0), (11, AV.map 68), (12, AV.loc 12 3 0 0), (13, B x16), (14, I x17), (15, I x24), (16, AV.loc 16 9 0 0), (53, B false)], [(3, ⟨9, ty_api_Setup, [nGSetup a0], true⟩), (9, ⟨12, ty_api_Suspension, x19, false⟩), (10, ⟨2, ty_api_Watch, [nGWatch x20], true⟩), (12, ⟨3, ty_api_Stamp, [nGStamp x12], true⟩), (16, ⟨9, ty_api_MarkEvent, [nGMarkEvent c25], true⟩), (28, ⟨1, ty_bool, x21, false⟩), (68, ⟨0, ty_M_i64_L_ref29_noted, x22, false⟩)]⟩

noncomputable def k_ref29_watch_1008v2 (a0 : GSetup) (a1 : List GMarkEvent) (a2 : Int) (x0 : List (List AV)) (x6 : Int) (x29 : GWatch) (x30 : GStamp) (x31 : List (List AV)) (x32 : List (List AV)) (x33 : Bool) : Option (AV × Mem) := pt R_ref29_watch 1008 ⟨[(1, AV.sl 9 (List.map nGMarkEvent a1)), (2, I a2), (3, AV.loc 3 9 0 0), (8, AV.row 28 1 0 ((List.replicate (↑(List.map nGMarkEvent a1).length : Int).toNat (AV.v (Go.Value.bool false) :: List.map AV.v [])).length)), (9, AV.row 9 12 0 (List.length x0)), (10, AV.loc 10 2 0 0), (11, AV.map 29), (12, AV.loc 12 3 0 0), (13, B x33), (14, I 0), (15, I x6)], [(3, ⟨9, ty_api_Setup, [nGSetup a0], true⟩), (9, ⟨12, ty_api_Suspension, x0, false⟩), (10, ⟨2, ty_api_Watch, [nGWatch x29], true⟩), (12, ⟨3, ty_api_Stamp, [nGStamp x30], true⟩), (28, ⟨1, ty_bool, x31, false⟩), (29, ⟨0, ty_M_i64_L_ref29_noted, x32, false⟩)]⟩

noncomputable def k_ref29_watch_1017 (a0 : GSetup) (a1 : List GMarkEvent) (a2 : Int) (x0 : List (List AV)) (x1 : GWatch) (x2 : GStamp) (x3 : List (List AV)) (x4 : List (List AV)) (x5 : Bool) (x6 : Int) (c7 : GMarkEvent) : Option (AV × Mem) := pt R_ref29_watch 1017 ⟨[(1, AV.sl 9 (List.map nGMarkEvent a1)), (2, I a2), (3, AV.loc 3 9 0 0), (8, AV.row 28 1 0 ((List.replicate (↑(List.map nGMarkEvent a1).length : Int).toNat (AV.v (Go.Value.bool false) :: List.map AV.v [])).length)), (9, AV.row 9 12 0 (List.length x0)), (10, AV.loc 10 2 0 0), (11, AV.map 29), (12, AV.loc 12 3 0 0), (13, B x5), (14, I 0), (15, I x6), (16, AV.loc 16 9 0 0), (83, B false)], [(3, ⟨9, ty_api_Setup, [nGSetup a0], true⟩), (9, ⟨12, ty_api_Suspension, x0, false⟩), (10, ⟨2, ty_api_Watch, [nGWatch x1], true⟩), (12, ⟨3, ty_api_Stamp, [nGStamp x2], true⟩), (16, ⟨9, ty_api_MarkEvent, [nGMarkEvent c7], true⟩), (28, ⟨1, ty_bool, x3, false⟩), (29, ⟨0, ty_M_i64_L_ref29_noted, x4, false⟩)]⟩

noncomputable def k_ref29_watch_1008v3 (a0 : GSetup) (a1 : List GMarkEvent) (a2 : Int) (x12 : GStamp) (x16 : Bool) (x17 : Int) (x19 : List (List AV)) (x20 : GWatch) (x21 : List (List AV)) (x22 : List (List AV)) (x23 : Nat) (x24 : Int) (c25 : GMarkEvent) : Option (AV × Mem) := pt R_ref29_watch 1008 ⟨[(1, AV.sl 9 (List.map nGMarkEvent a1)), (2, I a2), (3, AV.loc 3 9 0 0), (8, AV.row 28 1 0 ((List.replicate (↑(List.map nGMarkEvent a1).length : Int).toNat (AV.v (Go.Value.bool false) :: List.map AV.v [])).length)), (9, AV.row 9 12 0 x23), (10, AV.loc 10 2 0 0), (11, AV.map 68), (12, AV.loc 12 3 0 0), (13, B x16), (14, I x17), (15, I x24), (16, AV.loc 16 9 0 0), (81, B true)], [(3, ⟨9, ty_api_Setup, [nGSetup a0], true⟩), (9, ⟨12, ty_api_Suspension, x19, false⟩), (10, ⟨2, ty_api_Watch, [nGWatch x20], true⟩), (12, ⟨3, ty_api_Stamp, [nGStamp x12], true⟩), (16, ⟨9, ty_api_MarkEvent, [nGMarkEvent c25], true⟩), (28, ⟨1, ty_bool, x21, false⟩), (68, ⟨0, ty_M_i64_L_ref29_noted, x22, false⟩)]⟩

noncomputable def k_ref29_watch_1015v1 (a0 : GSetup) (a1 : List GMarkEvent) (a2 : Int) (x12 : GStamp) (x16 : Bool) (x17 : Int) (x19 : List (List AV)) (x20 : GWatch) (x21 : List (List AV)) (x22 : List (List AV)) (x23 : Nat) (x24 : Int) (c25 : GMarkEvent) : Option (AV × Mem) := pt R_ref29_watch 1015 ⟨[(1, AV.sl 9 (List.map nGMarkEvent a1)), (2, I a2), (3, AV.loc 3 9 0 0), (8, AV.row 28 1 0 ((List.replicate (↑(List.map nGMarkEvent a1).length : Int).toNat (AV.v (Go.Value.bool false) :: List.map AV.v [])).length)), (9, AV.row 9 12 0 x23), (10, AV.loc 10 2 0 0), (11, AV.map 68), (12, AV.loc 12 3 0 0), (13, B x16), (14, I x17), (15, I x24), (16, AV.loc 16 9 0 0), (81, B false)], [(3, ⟨9, ty_api_Setup, [nGSetup a0], true⟩), (9, ⟨12, ty_api_Suspension, x19, false⟩), (10, ⟨2, ty_api_Watch, [nGWatch x20], true⟩), (12, ⟨3, ty_api_Stamp, [nGStamp x12], true⟩), (16, ⟨9, ty_api_MarkEvent, [nGMarkEvent c25], true⟩), (28, ⟨1, ty_bool, x21, false⟩), (68, ⟨0, ty_M_i64_L_ref29_noted, x22, false⟩)]⟩

noncomputable def k_ref29_watch_1008v4 (a0 : GSetup) (a1 : List GMarkEvent) (a2 : Int) (x0 : List (List AV)) (x1 : GWatch) (x2 : GStamp) (x3 : List (List AV)) (x4 : List (List AV)) (x5 : Bool) (x6 : Int) (c7 : GMarkEvent) : Option (AV × Mem) := pt R_ref29_watch 1008 ⟨[(1, AV.sl 9 (List.map nGMarkEvent a1)), (2, I a2), (3, AV.loc 3 9 0 0), (8, AV.row 28 1 0 ((List.replicate (↑(List.map nGMarkEvent a1).length : Int).toNat (AV.v (Go.Value.bool false) :: List.map AV.v [])).length)), (9, AV.row 9 12 0 (List.length x0)), (10, AV.loc 10 2 0 0), (11, AV.map 29), (12, AV.loc 12 3 0 0), (13, B x5), (14, I 0), (15, I x6), (16, AV.loc 16 9 0 0), (102, B true)], [(3, ⟨9, ty_api_Setup, [nGSetup a0], true⟩), (9, ⟨12, ty_api_Suspension, x0, false⟩), (10, ⟨2, ty_api_Watch, [nGWatch x1], true⟩), (12, ⟨3, ty_api_Stamp, [nGStamp x2], true⟩), (16, ⟨9, ty_api_MarkEvent, [nGMarkEvent c7], true⟩), (28, ⟨1, ty_bool, x3, false⟩), (29, ⟨0, ty_M_i64_L_ref29_noted, x4, false⟩)]⟩

noncomputable def k_ref29_watch_1019 (a0 : GSetup) (a1 : List GMarkEvent) (a2 : Int) (x0 : List (List AV)) (x1 : GWatch) (x2 : GStamp) (x3 : List (List AV)) (x4 : List (List AV)) (x5 : Bool) (x6 : Int) (c7 : GMarkEvent) : Option (AV × Mem) := pt R_ref29_watch 1019 ⟨[(1, AV.sl 9 (List.map nGMarkEvent a1)), (2, I a2), (3, AV.loc 3 9 0 0), (8, AV.row 28 1 0 ((List.replicate (↑(List.map nGMarkEvent a1).length : Int).toNat (AV.v (Go.Value.bool false) :: List.map AV.v [])).length)), (9, AV.row 9 12 0 (List.length x0)), (10, AV.loc 10 2 0 0), (11, AV.map 29), (12, AV.loc 12 3 0 0), (13, B x5), (14, I 0), (15, I x6), (16, AV.loc 16 9 0 0), (102, B false)], [(3, ⟨9, ty_api_Setup, [nGSetup a0], true⟩), (9, ⟨12, ty_api_Suspension, x0, false⟩), (10, ⟨2, ty_api_Watch, [nGWatch x1], true⟩), (12, ⟨3, ty_api_Stamp, [nGStamp x2], true⟩), (16, ⟨9, ty_api_MarkEvent, [nGMarkEvent c7], true⟩), (28, ⟨1, ty_bool, x3, false⟩), (29, ⟨0, ty_M_i64_L_ref29_noted, x4, false⟩)]⟩

noncomputable def k_ref29_watch_1017v1 (a0 : GSetup) (a1 : List GMarkEvent) (a2 : Int) (x12 : GStamp) (x16 : Bool) (x17 : Int) (x19 : List (List AV)) (x20 : GWatch) (x21 : List (List AV)) (x22 : List (List AV)) (x23 : Nat) (x24 : Int) (c25 : GMarkEvent) : Option (AV × Mem) := pt R_ref29_watch 1017 ⟨[(1, AV.sl 9 (List.map nGMarkEvent a1)), (2, I a2), (3, AV.loc 3 9 0 0), (8, AV.row 28 1 0 ((List.replicate (↑(List.map nGMarkEvent a1).length : Int).toNat (AV.v (Go.Value.bool false) :: List.map AV.v [])).length)), (9, AV.row 9 12 0 x23), (10, AV.loc 10 2 0 0), (11, AV.map 68), (12, AV.loc 12 3 0 0), (13, B x16), (14, I x17), (15, I x24), (16, AV.loc 16 9 0 0), (83, B false)], [(3, ⟨9, ty_api_Setup, [nGSetup a0], true⟩), (9, ⟨12, ty_api_Suspension, x19, false⟩), (10, ⟨2, ty_api_Watch, [nGWatch x20], true⟩), (12, ⟨3, ty_api_Stamp, [nGStamp x12], true⟩), (16, ⟨9, ty_api_MarkEvent, [nGMarkEvent c25], true⟩), (28, ⟨1, ty_bool, x21, false⟩), (68, ⟨0, ty_M_i64_L_ref29_noted, x22, false⟩)]⟩

noncomputable def k_ref29_watch_2 (a0 : GSetup) (a1 : List GMarkEvent) (a2 : Int) (x0 : List (List AV)) (x1 : GWatch) (x2 : GStamp) (x3 : List (List AV)) (x4 : List (List AV)) (x5 : Bool) (x6 : Int) (c7 : GMarkEvent) (c37 : List Gref29Noted) (x39 : Bool) (x40 : Int) : Option (AV × Mem) := pt R_ref29_watch 2 ⟨[(1, AV.sl 9 (List.map nGMarkEvent a1)), (2, I a2), (3, AV.loc 3 9 0 0), (8, AV.row 28 1 0 ((List.replicate (↑(List.map nGMarkEvent a1).length : Int).toNat (AV.v (Go.Value.bool false) :: List.map AV.v [])).length)), (9, AV.row 9 12 0 (List.length x0)), (10, AV.loc 10 2 0 0), (11, AV.map 29), (12, AV.loc 12 3 0 0), (13, B x5), (14, I 0), (15, I x6), (16, AV.loc 16 9 0 0), (20, AV.sl 2 (List.map nGref29Noted c37)), (21, B x39), (22, I x40)], [(3, ⟨9, ty_api_Setup, [nGSetup a0], true⟩), (9, ⟨12, ty_api_Suspension, x0, false⟩), (10, ⟨2, ty_api_Watch, [nGWatch x1], true⟩), (12, ⟨3, ty_api_Stamp, [nGStamp x2], true⟩), (16, ⟨9, ty_api_MarkEvent, [nGMarkEvent c7], true⟩), (28, ⟨1, ty_bool, x3, false⟩), (29, ⟨0, ty_M_i64_L_ref29_noted, x4, false⟩)]⟩

noncomputable def k_ref29_watch_1008v5 (a0 : GSetup) (a1 : List GMarkEvent) (a2 : Int) (x12 : GStamp) (x16 : Bool) (x17 : Int) (x19 : List (List AV)) (x20 : GWatch) (x21 : List (List AV)) (x22 : List (List AV)) (x23 : Nat) (x24 : Int) (c25 : GMarkEvent) : Option (AV × Mem) := pt R_ref29_watch 1008 ⟨[(1, AV.sl 9 (List.map nGMarkEvent a1)), (2, I a2), (3, AV.loc 3 9 0 0), (8, AV.row 28 1 0 ((List.replicate (↑(List.map nGMarkEvent a1).length : Int).toNat (AV.v (Go.Value.bool false) :: List.map AV.v [])).length)), (9, AV.row 9 12 0 x23), (10, AV.loc 10 2 0 0), (11, AV.map 68), (12, AV.loc 12 3 0 0), (13, B x16), (14, I x17), (15, I x24), (16, AV.loc 16 9 0 0), (102, B true)], [(3, ⟨9, ty_api_Setup, [nGSetup a0], true⟩), (9, ⟨12, ty_api_Suspension, x19, false⟩), (10, ⟨2, ty_api_Watch, [nGWatch x20], true⟩), (12, ⟨3, ty_api_Stamp, [nGStamp x12], true⟩), (16, ⟨9, ty_api_MarkEvent, [nGMarkEvent c25], true⟩), (28, ⟨1, ty_bool, x21, false⟩), (68, ⟨0, ty_M_i64_L_ref29_noted, x22, false⟩)]⟩

noncomputable def k_ref29_watch_1019v1 (a0 : GSetup) (a1 : List GMarkEvent) (a2 : Int) (x12 : GStamp) (x16 : Bool) (x17 : Int) (x19 : List (List AV)) (x20 : GWatch) (x21 : List (List AV)) (x22 : List (List AV)) (x23 : Nat) (x24 : Int) (c25 : GMarkEvent) : Option (AV × Mem) := pt R_ref29_watch 1019 ⟨[(1, AV.sl 9 (List.map nGMarkEvent a1)), (2, I a2), (3, AV.loc 3 9 0 0), (8, AV.row 28 1 0 ((List.replicate (↑(List.map nGMarkEvent a1).length : Int).toNat (AV.v (Go.Value.bool false) :: List.map AV.v [])).length)), (9, AV.row 9 12 0 x23), (10, AV.loc 10 2 0 0), (11, AV.map 68), (12, AV.loc 12 3 0 0), (13, B x16), (14, I x17), (15, I x24), (16, AV.loc 16 9 0 0), (102, B false)], [(3, ⟨9, ty_api_Setup, [nGSetup a0], true⟩), (9, ⟨12, ty_api_Suspension, x19, false⟩), (10, ⟨2, ty_api_Watch, [nGWatch x20], true⟩), (12, ⟨3, ty_api_Stamp, [nGStamp x12], true⟩), (16, ⟨9, ty_api_MarkEvent, [nGMarkEvent c25], true⟩), (28, ⟨1, ty_bool, x21, false⟩), (68, ⟨0, ty_M_i64_L_ref29_noted, x22, false⟩)]⟩

noncomputable def k_ref29_watch_1008v6 (a0 : GSetup) (a1 : List GMarkEvent) (a2 : Int) (x0 : List (List AV)) (x1 : GWatch) (x2 : GStamp) (x3 : List (List AV)) (x4 : List (List AV)) (x5 : Bool) (x6 : Int) (c7 : GMarkEvent) (c37 : List Gref29Noted) : Option (AV × Mem) := pt R_ref29_watch 1008 ⟨[(1, AV.sl 9 (List.map nGMarkEvent a1)), (2, I a2), (3, AV.loc 3 9 0 0), (8, AV.row 28 1 0 ((List.replicate (↑(List.map nGMarkEvent a1).length : Int).toNat (AV.v (Go.Value.bool false) :: List.map AV.v [])).length)), (9, AV.row 9 12 0 (List.length x0)), (10, AV.loc 10 2 0 0), (11, AV.map 29), (12, AV.loc 12 3 0 0), (13, B x5), (14, I 0), (15, I x6), (16, AV.loc 16 9 0 0), (20, AV.sl 2 (List.map nGref29Noted c37)), (124, B true)], [(3, ⟨9, ty_api_Setup, [nGSetup a0], true⟩), (9, ⟨12, ty_api_Suspension, x0, false⟩), (10, ⟨2, ty_api_Watch, [nGWatch x1], true⟩), (12, ⟨3, ty_api_Stamp, [nGStamp x2], true⟩), (16, ⟨9, ty_api_MarkEvent, [nGMarkEvent c7], true⟩), (28, ⟨1, ty_bool, x3, false⟩), (29, ⟨0, ty_M_i64_L_ref29_noted, x4, false⟩)]⟩

noncomputable def k_ref29_watch_1025 (a0 : GSetup) (a1 : List GMarkEvent) (a2 : Int) (x0 : List (List AV)) (x1 : GWatch) (x2 : GStamp) (x3 : List (List AV)) (x4 : List (List AV)) (x5 : Bool) (x6 : Int) (c7 : GMarkEvent) (c37 : List Gref29Noted) : Option (AV × Mem) := pt R_ref29_watch 1025 ⟨[(1, AV.sl 9 (List.map nGMarkEvent a1)), (2, I a2), (3, AV.loc 3 9 0 0), (8, AV.row 28 1 0 ((List.replicate (↑(List.map nGMarkEvent a1).length : Int).toNat (AV.v (Go.Value.bool false) :: List.map AV.v [])).length)), (9, AV.row 9 12 0 (List.length x0)), (10, AV.loc 10 2 0 0), (11, AV.map 29), (12, AV.loc 12 3 0 0), (13, B x5), (14, I 0), (15, I x6), (16, AV.loc 16 9 0 0), (20, AV.sl 2 (List.map nGref29Noted c37)), (124, B false)], [(3, ⟨9, ty_api_Setup, [nGSetup a0], true⟩), (9, ⟨12, ty_api_Suspension, x0, false⟩), (10, ⟨2, ty_api_Watch, [nGWatch x1], true⟩), (12, ⟨3, ty_api_Stamp, [nGStamp x2], true⟩), (16, ⟨9, ty_api_MarkEvent, [nGMarkEvent c7], true⟩), (28, ⟨1, ty_bool, x3, false⟩), (29, ⟨0, ty_M_i64_L_ref29_noted, x4, false⟩)]⟩

noncomputable def k_ref29_watch_2v1 (a0 : GSetup) (a1 : List GMarkEvent) (a2 : Int) (x12 : GStamp) (x16 : Bool) (x17 : Int) (x19 : List (List AV)) (x20 : GWatch) (x21 : List (List AV)) (x22 : List (List AV)) (x23 : Nat) (x24 : Int) (c25 : GMarkEvent) (c44 : List Gref29Noted) (x46 : Bool) (x47 : Int) : Option (AV × Mem) := pt R_ref29_watch 2 ⟨[(1, AV.sl 9 (List.map nGMarkEvent a1)), (2, I a2), (3, AV.loc 3 9 0 0), (8, AV.row 28 1 0 ((List.replicate (↑(List.map nGMarkEvent a1).length : Int).toNat (AV.v (Go.Value.bool false) :: List.map AV.v [])).length)), (9, AV.row 9 12 0 x23), (10, AV.loc 10 2 0 0), (11, AV.map 68), (12, AV.loc 12 3 0 0), (13, B x16), (14, I x17), (15, I x24), (16, AV.loc 16 9 0 0), (20, AV.sl 2 (List.map nGref29Noted c44)), (21, B x46), (22, I x47)], [(3, ⟨9, ty_api_Setup, [nGSetup a0], true⟩), (9, ⟨12, ty_api_Suspension, x19, false⟩), (10, ⟨2, ty_api_Watch, [nGWatch x20], true⟩), (12, ⟨3, ty_api_Stamp, [nGStamp x12], true⟩), (16, ⟨9, ty_api_MarkEvent, [nGMarkEvent c25], true⟩), (28, ⟨1, ty_bool, x21, false⟩), (68, ⟨0, ty_M_i64_L_ref29_noted, x22, false⟩)]⟩

noncomputable def k_ref29_watch_1026 (a0 : GSetup) (a1 : List GMarkEvent) (a2 : Int) (x0 : List (List AV)) (x1 : GWatch) (x2 : GStamp) (x3 : List (List AV)) (x5 : Bool) (x6 : Int) (c7 : GMarkEvent) (m48 : List (List AV)) : Option (AV × Mem) := pt R_ref29_watch 1026 ⟨[(1, AV.sl 9 (List.map nGMarkEvent a1)), (2, I a2), (3, AV.loc 3 9 0 0), (8, AV.row 28 1 0 ((List.replicate (↑(List.map nGMarkEvent a1).length : Int).toNat (AV.v (Go.Value.bool false) :: List.map AV.v [])).length)), (9, AV.row 9 12 0 (List.length x0)), (10, AV.loc 10 2 0 0), (11, AV.map 29), (12, AV.loc 12 3 0 0), (13, B x5), (14, I 0), (15, I x6), (16, AV.loc 16 9 0 0)], [(3, ⟨9, ty_api_Setup, [nGSetup a0], true⟩), (9, ⟨12, ty_api_Suspension, x0, false⟩), (10, ⟨2, ty_api_Watch, [nGWatch x1], true⟩), (12, ⟨3, ty_api_Stamp, [nGStamp x2], true⟩), (16, ⟨9, ty_api_MarkEvent, [nGMarkEvent c7], true⟩), (28, ⟨1, ty_bool, x3, false⟩), (29, ⟨0, ty_M_i64_L_ref29_noted, m48, false⟩)]⟩

noncomputable def k_ref29_watch_1008v7 (a0 : GSetup) (a1 : List GMarkEvent) (a2 : Int) (x12 : GStamp) (x16 : Bool) (x17 : Int) (x19 : List (List AV)) (x20 : GWatch) (x21 : List (List AV)) (x22 : List (List AV)) (x23 : Nat) (x24 : Int) (c25 : GMarkEvent) (c44 : List Gref29Noted) : Option (AV × Mem) := pt R_ref29_watch 1008 ⟨[(1, AV.sl 9 (List.map nGMarkEvent a1)), (2, I a2), (3, AV.loc 3 9 0 0), (8, AV.row 28 1 0 ((List.replicate (↑(List.map nGMarkEvent a1).length : Int).toNat (AV.v (Go.Value.bool false) :: List.map AV.v [])).length)), (9, AV.row 9 12 0 x23), (10, AV.loc 10 2 0 0), (11, AV.map 68), (12, AV.loc 12 3 0 0), (13, B x16), (14, I x17), (15, I x24), (16, AV.loc 16 9 0 0), (20, AV.sl 2 (List.map nGref29Noted c44)), (124, B true)], [(3, ⟨9, ty_api_Setup, [nGSetup a0], true⟩), (9, ⟨12, ty_api_Suspension, x19, false⟩), (10, ⟨2, ty_api_Watch, [nGWatch x20], true⟩), (12, ⟨3, ty_api_Stamp, [nGStamp x12], true⟩), (16, ⟨9, ty_api_MarkEvent, [nGMarkEvent c25], true⟩), (28, ⟨1, ty_bool, x21, false⟩), (68, ⟨0, ty_M_i64_L_ref29_noted, x22, false⟩)]⟩

noncomputable def k_ref29_watch_1025v1 (a0 : GSetup) (a1 : List GMarkEvent) (a2 : Int) (x12 : GStamp) (x16 : Bool) (x17 : Int) (x19 : List (List AV)) (x20 : GWatch) (x21 : List (List AV)) (x22 : List (List AV)) (x23 : Nat) (x24 : Int) (c25 : GMarkEvent) (c44 : List Gref29Noted) : Option (AV × Mem) := pt R_ref29_watch 1025 ⟨[(1, AV.sl 9 (List.map nGMarkEvent a1)), (2, I a2), (3, AV.loc 3 9 0 0), (8, AV.row 28 1 0 ((List.replicate (↑(List.map nGMarkEvent a1).length : Int).toNat (AV.v (Go.Value.bool false) :: List.map AV.v [])).length)), (9, AV.row 9 12 0 x23), (10, AV.loc 10 2 0 0), (11, AV.map 68), (12, AV.loc 12 3 0 0), (13, B x16), (14, I x17), (15, I x24), (16, AV.loc 16 9 0 0), (20, AV.sl 2 (List.map nGref29Noted c44)), (124, B false)], [(3, ⟨9, ty_api_Setup, [nGSetup a0], true⟩), (9, ⟨12, ty_api_Suspension, x19, false⟩), (10, ⟨2, ty_api_Watch, [nGWatch x20], true⟩), (12, ⟨3, ty_api_Stamp, [nGStamp x12], true⟩), (16, ⟨9, ty_api_MarkEvent, [nGMarkEvent c25], true⟩), (28, ⟨1, ty_bool, x21, false⟩), (68, ⟨0, ty_M_i64_L_ref29_noted, x22, false⟩)]⟩

noncomputable def k_ref29_watch_1008v8 (a0 : GSetup) (a1 : List GMarkEvent) (a2 : Int) (x0 : List (List AV)) (x1 : GWatch) (x2 : GStamp) (x3 : List (List AV)) (x5 : Bool) (x6 : Int) (c7 : GMarkEvent) (m48 : List (List AV)) (r52 : Bool × Bool) : Option (AV × Mem) := pt R_ref29_watch 1008 ⟨[(1, AV.sl 9 (List.map nGMarkEvent a1)), (2, I a2), (3, AV.loc 3 9 0 0), (8, AV.row 28 1 0 ((List.replicate (↑(List.map nGMarkEvent a1).length : Int).toNat (AV.v (Go.Value.bool false) :: List.map AV.v [])).length)), (9, AV.row 9 12 0 (List.length x0)), (10, AV.loc 10 2 0 0), (11, AV.map 29), (12, AV.loc 12 3 0 0), (13, B x5), (14, I 0), (15, I x6), (16, AV.loc 16 9 0 0), (24, B r52.snd), (149, B true)], [(3, ⟨9, ty_api_Setup, [nGSetup a0], true⟩), (9, ⟨12, ty_api_Suspension, x0, false⟩), (10, ⟨2, ty_api_Watch, [nGWatch x1], true⟩), (12, ⟨3, ty_api_Stamp, [nGStamp x2], true⟩), (16, ⟨9, ty_api_MarkEvent, [nGMarkEvent c7], true⟩), (28, ⟨1, ty_bool, x3, false⟩), (29, ⟨0, ty_M_i64_L_ref29_noted, m48, false⟩)]⟩

noncomputable def k_ref29_watch_1028 (a0 : GSetup) (a1 : List GMarkEvent) (a2 : Int) (x0 : List (List AV)) (x1 : GWatch) (x2 : GStamp) (x3 : List (List AV)) (x5 : Bool) (x6 : Int) (c7 : GMarkEvent) (m48 : List (List AV)) (r52 : Bool × Bool) : Option (AV × Mem) := pt R_ref29_watch 1028 ⟨[(1, AV.sl 9 (List.map nGMarkEvent a1)), (2, I a2), (3, AV.loc 3 9 0 0), (8, AV.row 28 1 0 ((List.replicate (↑(List.map nGMarkEvent a1).length : Int).toNat (AV.v (Go.Value.bool false) :: List.map AV.v [])).length)), (9, AV.row 9 12 0 (List.length x0)), (10, AV.loc 10 2 0 0), (11, AV.map 29), (12, AV.loc 12 3 0 0), (13, B x5), (14, I 0), (15, I x6), (16, AV.loc 16 9 0 0), (24, B r52.snd), (149, B false)], [(3, ⟨9, ty_api_Setup, [nGSetup a0], true⟩), (9, ⟨12, ty_api_Suspension, x0, false⟩), (10, ⟨2, ty_api_Watch, [nGWatch x1], true⟩), (12, ⟨3, ty_api_Stamp, [nGStamp x2], true⟩), (16, ⟨9, ty_api_MarkEvent, [nGMarkEvent c7], true⟩), (28, ⟨1, ty_bool, x3, false⟩), (29, ⟨0, ty_M_i64_L_ref29_noted, m48, false⟩)]⟩

noncomputable def k_ref29_watch_1026v1 (a0 : GSetup) (a1 : List GMarkEvent) (a2 : Int) (x12 : GStamp) (x16 : Bool) (x17 : Int) (x19 : List (List AV)) (x20 : GWatch) (x21 : List (List AV)) (x23 : Nat) (x24 : Int) (c25 : GMarkEvent) (m53 : List (List AV)) : Option (AV × Mem) := pt R_ref29_watch 1026 ⟨[(1, AV.sl 9 (List.map nGMarkEvent a1)), (2, I a2), (3, AV.loc 3 9 0 0), (8, AV.row 28 1 0 ((List.replicate (↑(List.map nGMarkEvent a1).length : Int).toNat (AV.v (Go.Value.bool false) :: List.map AV.v [])).length)), (9, AV.row 9 12 0 x23), (10, AV.loc 10 2 0 0), (11, AV.map 68), (12, AV.loc 12 3 0 0), (13, B x16), (14, I x17), (15, I x24), (16, AV.loc 16 9 0 0)], [(3, ⟨9, ty_api_Setup, [nGSetup a0], true⟩), (9, ⟨12, ty_api_Suspension, x19, false⟩), (10, ⟨2, ty_api_Watch, [nGWatch x20], true⟩), (12, ⟨3, ty_api_Stamp, [nGStamp x12], true⟩), (16, ⟨9, ty_api_MarkEvent, [nGMarkEvent c25], true⟩), (28, ⟨1, ty_bool, x21, false⟩), (68, ⟨0, ty_M_i64_L_ref29_noted, m53, false⟩)]⟩

noncomputable def k_ref29_watch_1029 (a0 : GSetup) (a1 : List GMarkEvent) (a2 : Int) (x0 : List (List AV)) (x2 : GStamp) (x3 : List (List AV)) (x5 : Bool) (x6 : Int) (c7 : GMarkEvent) (m48 : List (List AV)) (r52 : Bool × Bool) (r54 : GWatch × Int) : Option (AV × Mem) := pt R_ref29_watch 1029 ⟨[(1, AV.sl 9 (List.map nGMarkEvent a1)), (2, I a2), (3, AV.loc 3 9 0 0), (8, AV.row 28 1 0 ((List.replicate (↑(List.map nGMarkEvent a1).length : Int).toNat (AV.v (Go.Value.bool false) :: List.map AV.v [])).length)), (9, AV.row 9 12 0 (List.length x0)), (10, AV.loc 10 2 0 0), (11, AV.map 29), (12, AV.loc 12 3 0 0), (13, B x5), (14, I 0), (15, I x6), (16, AV.loc 16 9 0 0), (24, B r52.snd)], [(3, ⟨9, ty_api_Setup, [nGSetup a0], true⟩), (9, ⟨12, ty_api_Suspension, x0, false⟩), (10, ⟨2, ty_api_Watch, [nGWatch r54.fst], true⟩), (12, ⟨3, ty_api_Stamp, [nGStamp x2], true⟩), (16, ⟨9, ty_api_MarkEvent, [nGMarkEvent c7], true⟩), (28, ⟨1, ty_bool, x3, false⟩), (29, ⟨0, ty_M_i64_L_ref29_noted, m48, false⟩)]⟩

noncomputable def k_ref29_watch_1008v9 (a0 : GSetup) (a1 : List GMarkEvent) (a2 : Int) (x12 : GStamp) (x16 : Bool) (x17 : Int) (x19 : List (List AV)) (x20 : GWatch) (x21 : List (List AV)) (x23 : Nat) (x24 : Int) (c25 : GMarkEvent) (m53 : List (List AV)) (r57 : Bool × Bool) : Option (AV × Mem) := pt R_ref29_watch 1008 ⟨[(1, AV.sl 9 (List.map nGMarkEvent a1)), (2, I a2), (3, AV.loc 3 9 0 0), (8, AV.row 28 1 0 ((List.replicate (↑(List.map nGMarkEvent a1).length : Int).toNat (AV.v (Go.Value.bool false) :: List.map AV.v [])).length)), (9, AV.row 9 12 0 x23), (10, AV.loc 10 2 0 0), (11, AV.map 68), (12, AV.loc 12 3 0 0), (13, B x16), (14, I x17), (15, I x24), (16, AV.loc 16 9 0 0), (24, B r57.snd), (149, B true)], [(3, ⟨9, ty_api_Setup, [nGSetup a0], true⟩), (9, ⟨12, ty_api_Suspension, x19, false⟩), (10, ⟨2, ty_api_Watch, [nGWatch x20], true⟩), (12, ⟨3, ty_api_Stamp, [nGStamp x12], true⟩), (16, ⟨9, ty_api_MarkEvent, [nGMarkEvent c25], true⟩), (28, ⟨1, ty_bool, x21, false⟩), (68, ⟨0, ty_M_i64_L_ref29_noted, m53, false⟩)]⟩

noncomputable def k_ref29_watch_1028v1 (a0 : GSetup) (a1 : List GMarkEvent) (a2 : Int) (x12 : GStamp) (x16 : Bool) (x17 : Int) (x19 : List (List AV)) (x20 : GWatch) (x21 : List (List AV)) (x23 : Nat) (x24 : Int) (c25 : GMarkEvent) (m53 : List (List AV)) (r57 : Bool × Bool) : Option (AV × Mem) := pt R_ref29_watch 1028 ⟨[(1, AV.sl 9 (List.map nGMarkEvent a1)), (2, I a2), (3, AV.loc 3 9 0 0), (8, AV.row 28 1 0 ((List.replicate (↑(List.map nGMarkEvent a1).length : Int).toNat (AV.v (Go.Value.bool false) :: List.map AV.v [])).length)), (9, AV.row 9 12 0 x23), (10, AV.loc 10 2 0 0), (11, AV.map 68), (12, AV.loc 12 3 0 0), (13, B x16), (14, I x17), (15, I x24), (16, AV.loc 16 9 0 0), (24, B r57.snd), (149, B false)], [(3, ⟨9, ty_api_Setup, [nGSetup a0], true⟩), (9, ⟨12, ty_api_Suspension, x19, false⟩), (10, ⟨2, ty_api_Watch, [nGWatch x20], true⟩), (12, ⟨3, ty_api_Stamp, [nGStamp x12], true⟩), (16, ⟨9, ty_api_MarkEvent, [nGMarkEvent c25], true⟩), (28, ⟨1, ty_bool, x21, false⟩), (68, ⟨0, ty_M_i64_L_ref29_noted, m53, false⟩)]⟩

noncomputable def k_ref29_watch_3 (a0 : GSetup) (a1 : List GMarkEvent) (a2 : Int) (x0 : List (List AV)) (x2 : GStamp) (x3 : List (List AV)) (x5 : Bool) (x6 : Int) (c7 : GMarkEvent) (m48 : List (List AV)) (r52 : Bool × Bool) (r54 : GWatch × Int) (x58 : List (List AV)) (x59 : Int) : Option (AV × Mem) := pt R_ref29_watch 3 ⟨[(1, AV.sl 9 (List.map nGMarkEvent a1)), (2, I a2), (3, AV.loc 3 9 0 0), (8, AV.row 28 1 0 ((List.replicate (↑(List.map nGMarkEvent a1).length : Int).toNat (AV.v (Go.Value.bool false) :: List.map AV.v [])).length)), (9, AV.row 9 12 0 (List.length (x0 ++ ([[I a2, I x2.Time, I x2.Source, I x2.Seq, I c7.Stamp.Time, I c7.Stamp.Source, I c7.Stamp.Seq, I 0, I 0, I 0, B x5, B false]])))), (10, AV.loc 10 2 0 0), (11, AV.map 29), (12, AV.loc 12 3 0 0), (13, B x5), (14, I 0), (15, I x6), (25, I x59)], [(3, ⟨9, ty_api_Setup, [nGSetup a0], true⟩), (9, ⟨12, ty_api_Suspension, x0 ++ ([nGSuspension (⟨a2, ⟨x2.Time, x2.Source, x2.Seq⟩, ⟨c7.Stamp.Time, c7.Stamp.Source, c7.Stamp.Seq⟩, ⟨0, 0, 0⟩, x5, false⟩)]), false⟩), (10, ⟨2, ty_api_Watch, [nGWatch r54.fst], true⟩), (12, ⟨3, ty_api_Stamp, [nGStamp x2], true⟩), (28, ⟨1, ty_bool, x58, false⟩), (29, ⟨0, ty_M_i64_L_ref29_noted, m48, false⟩)]⟩

noncomputable def k_ref29_watch_1008v10 (a0 : GSetup) (a1 : List GMarkEvent) (a2 : Int) (x0 : List (List AV)) (x2 : GStamp) (x3 : List (List AV)) (x5 : Bool) (x6 : Int) (c7 : GMarkEvent) (m48 : List (List AV)) (r54 : GWatch × Int) : Option (AV × Mem) := pt R_ref29_watch 1008 ⟨[(1, AV.sl 9 (List.map nGMarkEvent a1)), (2, I a2), (3, AV.loc 3 9 0 0), (8, AV.row 28 1 0 ((List.replicate (↑(List.map nGMarkEvent a1).length : Int).toNat (AV.v (Go.Value.bool false) :: List.map AV.v [])).length)), (9, AV.row 9 12 0 (List.length x0)), (10, AV.loc 10 2 0 0), (11, AV.map 29), (12, AV.loc 12 3 0 0), (13, B x5), (14, I 0), (15, I x6), (16, AV.loc 16 9 0 0), (217, B false)], [(3, ⟨9, ty_api_Setup, [nGSetup a0], true⟩), (9, ⟨12, ty_api_Suspension, x0, false⟩), (10, ⟨2, ty_api_Watch, [nGWatch r54.fst], true⟩), (12, ⟨3, ty_api_Stamp, [nGStamp x2], true⟩), (16, ⟨9, ty_api_MarkEvent, [nGMarkEvent c7], true⟩), (28, ⟨1, ty_bool, x3, false⟩), (29, ⟨0, ty_M_i64_L_ref29_noted, m48, false⟩)]⟩

noncomputable def k_ref29_watch_1029v1 (a0 : GSetup) (a1 : List GMarkEvent) (a2 : Int) (x12 : GStamp) (x16 : Bool) (x17 : Int) (x19 : List (List AV)) (x21 : List (List AV)) (x23 : Nat) (x24 : Int) (c25 : GMarkEvent) (m53 : List (List AV)) (r57 : Bool × Bool) (r60 : GWatch × Int) : Option (AV × Mem) := pt R_ref29_watch 1029 ⟨[(1, AV.sl 9 (List.map nGMarkEvent a1)), (2, I a2), (3, AV.loc 3 9 0 0), (8, AV.row 28 1 0 ((List.replicate (↑(List.map nGMarkEvent a1).length : Int).toNat (AV.v (Go.Value.bool false) :: List.map AV.v [])).length)), (9, AV.row 9 12 0 x23), (10, AV.loc 10 2 0 0), (11, AV.map 68), (12, AV.loc 12 3 0 0), (13, B x16), (14, I x17), (15, I x24), (16, AV.loc 16 9 0 0), (24, B r57.snd)], [(3, ⟨9, ty_api_Setup, [nGSetup a0], true⟩), (9, ⟨12, ty_api_Suspension, x19, false⟩), (10, ⟨2, ty_api_Watch, [nGWatch r60.fst], true⟩), (12, ⟨3, ty_api_Stamp, [nGStamp x12], true⟩), (16, ⟨9, ty_api_MarkEvent, [nGMarkEvent c25], true⟩), (28, ⟨1, ty_bool, x21, false⟩), (68, ⟨0, ty_M_i64_L_ref29_noted, m53, false⟩)]⟩

noncomputable def k_ref29_watch_1033 (a0 : GSetup) (a1 : List GMarkEvent) (a2 : Int) (x0 : List (List AV)) (x2 : GStamp) (x3 : List (List AV)) (x5 : Bool) (x6 : Int) (c7 : GMarkEvent) (m48 : List (List AV)) (r52 : Bool × Bool) (r54 : GWatch × Int) (x59 : Int) (x63 : List (List AV)) : Option (AV × Mem) := pt R_ref29_watch 1033 ⟨[(1, AV.sl 9 (List.map nGMarkEvent a1)), (2, I a2), (3, AV.loc 3 9 0 0), (8, AV.row 28 1 0 ((List.replicate (↑(List.map nGMarkEvent a1).length : Int).toNat (AV.v (Go.Value.bool false) :: List.map AV.v [])).length)), (9, AV.row 9 12 0 (List.length (x0 ++ ([[I a2, I x2.Time, I x2.Source, I x2.Seq, I c7.Stamp.Time, I c7.Stamp.Source, I c7.Stamp.Seq, I 0, I 0, I 0, B x5, B false]])))), (10, AV.loc 10 2 0 0), (11, AV.map 29), (12, AV.loc 12 3 0 0), (13, B x5), (14, I 0), (15, I x6), (25, I x59)], [(3, ⟨9, ty_api_Setup, [nGSetup a0], true⟩), (9, ⟨12, ty_api_Suspension, x0 ++ ([nGSuspension (⟨a2, ⟨x2.Time, x2.Source, x2.Seq⟩, ⟨c7.Stamp.Time, c7.Stamp.Source, c7.Stamp.Seq⟩, ⟨0, 0, 0⟩, x5, false⟩)]), false⟩), (10, ⟨2, ty_api_Watch, [nGWatch r54.fst], true⟩), (12, ⟨3, ty_api_Stamp, [nGStamp x2], true⟩), (28, ⟨1, ty_bool, x63, false⟩), (29, ⟨0, ty_M_i64_L_ref29_noted, m48, false⟩)]⟩

noncomputable def k_ref29_watch_1008v11 (a0 : GSetup) (a1 : List GMarkEvent) (a2 : Int) (x0 : List (List AV)) (x2 : GStamp) (x3 : List (List AV)) (x5 : Bool) (x6 : Int) (c7 : GMarkEvent) (m48 : List (List AV)) (r52 : Bool × Bool) (r54 : GWatch × Int) (x58 : List (List AV)) (x59 : Int) : Option (AV × Mem) := pt R_ref29_watch 1008 ⟨[(1, AV.sl 9 (List.map nGMarkEvent a1)), (2, I a2), (3, AV.loc 3 9 0 0), (8, AV.row 28 1 0 ((List.replicate (↑(List.map nGMarkEvent a1).length : Int).toNat (AV.v (Go.Value.bool false) :: List.map AV.v [])).length)), (9, AV.row 9 12 0 (List.length (x0 ++ ([[I a2, I x2.Time, I x2.Source, I x2.Seq, I c7.Stamp.Time, I c7.Stamp.Source, I c7.Stamp.Seq, I 0, I 0, I 0, B x5, B false]])))), (10, AV.loc 10 2 0 0), (11, AV.map 29), (12, AV.loc 12 3 0 0), (13, B x5), (14, I 0), (15, I x6), (25, I x59), (172, B false)], [(3, ⟨9, ty_api_Setup, [nGSetup a0], true⟩), (9, ⟨12, ty_api_Suspension, x0 ++ ([nGSuspension (⟨a2, ⟨x2.Time, x2.Source, x2.Seq⟩, ⟨c7.Stamp.Time, c7.Stamp.Source, c7.Stamp.Seq⟩, ⟨0, 0, 0⟩, x5, false⟩)]), false⟩), (10, ⟨2, ty_api_Watch, [nGWatch r54.fst], true⟩), (12, ⟨3, ty_api_Stamp, [nGStamp x2], true⟩), (28, ⟨1, ty_bool, x58, false⟩), (29, ⟨0, ty_M_i64_L_ref29_noted, m48, false⟩)]⟩

noncomputable def k_ref29_watch_3v1 (a0 : GSetup) (a1 : List GMarkEvent) (a2 : Int) (x12 : GStamp) (x16 : Bool) (x17 : Int) (x19 : List (List AV)) (x21 : List (List AV)) (x23 : Nat) (x24 : Int) (c25 : GMarkEvent) (m53 : List (List AV)) (r57 : Bool × Bool) (r60 : GWatch × Int) (x75 : List (List AV)) (x76 : Int) : Option (AV × Mem) := pt R_ref29_watch 3 ⟨[(1, AV.sl 9 (List.map nGMarkEvent a1)), (2, I a2), (3, AV.loc 3 9 0 0), (8, AV.row 28 1 0 ((List.replicate (↑(List.map nGMarkEvent a1).length : Int).toNat (AV.v (Go.Value.bool false) :: List.map AV.v [])).length)), (9, AV.row 9 12 0 (List.length (x19 ++ ([[I a2, I x12.Time, I x12.Source, I x12.Seq, I c25.Stamp.Time, I c25.Stamp.Source, I c25.Stamp.Seq, I 0, I 0, I 0, B x16, B false]])))), (10, AV.loc 10 2 0 0), (11, AV.map 68), (12, AV.loc 12 3 0 0), (13, B x16), (14, I x17), (15, I x24), (25, I x76)], [(3, ⟨9, ty_api_Setup, [nGSetup a0], true⟩), (9, ⟨12, ty_api_Suspension, x19 ++ ([nGSuspension (⟨a2, ⟨x12.Time, x12.Source, x12.Seq⟩, ⟨c25.Stamp.Time, c25.Stamp.Source, c25.Stamp.Seq⟩, ⟨0, 0, 0⟩, x16, false⟩)]), false⟩), (10, ⟨2, ty_api_Watch, [nGWatch r60.fst], true⟩), (12, ⟨3, ty_api_Stamp, [nGStamp x12], true⟩), (28, ⟨1, ty_bool, x75, false⟩), (68, ⟨0, ty_M_i64_L_ref29_noted, m53, false⟩)]⟩

noncomputable def k_ref29_watch_1008v12 (a0 : GSetup) (a1 : List GMarkEvent) (a2 : Int) (x12 : GStamp) (x16 : Bool) (x17 : Int) (x19 : List (List AV)) (x21 : List (List AV)) (x23 : Nat) (x24 : Int) (c25 : GMarkEvent) (m53 : List (List AV)) (r60 : GWatch × Int) : Option (AV × Mem) := pt R_ref29_watch 1008 ⟨[(1, AV.sl 9 (List.map nGMarkEvent a1)), (2, I a2), (3, AV.loc 3 9 0 0), (8, AV.row 28 1 0 ((List.replicate (↑(List.map nGMarkEvent a1).length : Int).toNat (AV.v (Go.Value.bool false) :: List.map AV.v [])).length)), (9, AV.row 9 12 0 x23), (10, AV.loc 10 2 0 0), (11, AV.map 68), (12, AV.loc 12 3 0 0), (13, B x16), (14, I x17), (15, I x24), (16, AV.loc 16 9 0 0), (217, B false)], [(3, ⟨9, ty_api_Setup, [nGSetup a0], true⟩), (9, ⟨12, ty_api_Suspension, x19, false⟩), (10, ⟨2, ty_api_Watch, [nGWatch r60.fst], true⟩), (12, ⟨3, ty_api_Stamp, [nGStamp x12], true⟩), (16, ⟨9, ty_api_MarkEvent, [nGMarkEvent c25], true⟩), (28, ⟨1, ty_bool, x21, false⟩), (68, ⟨0, ty_M_i64_L_ref29_noted, m53, false⟩)]⟩

noncomputable def k_ref29_watch_1033v1 (a0 : GSetup) (a1 : List GMarkEvent) (a2 : Int) (x12 : GStamp) (x16 : Bool) (x17 : Int) (x19 : List (List AV)) (x21 : List (List AV)) (x23 : Nat) (x24 : Int) (c25 : GMarkEvent) (m53 : List (List AV)) (r57 : Bool × Bool) (r60 : GWatch × Int) (x76 : Int) (x79 : List (List AV)) : Option (AV × Mem) := pt R_ref29_watch 1033 ⟨[(1, AV.sl 9 (List.map nGMarkEvent a1)), (2, I a2), (3, AV.loc 3 9 0 0), (8, AV.row 28 1 0 ((List.replicate (↑(List.map nGMarkEvent a1).length : Int).toNat (AV.v (Go.Value.bool false) :: List.map AV.v [])).length)), (9, AV.row 9 12 0 (List.length (x19 ++ ([[I a2, I x12.Time, I x12.Source, I x12.Seq, I c25.Stamp.Time, I c25.Stamp.Source, I c25.Stamp.Seq, I 0, I 0, I 0, B x16, B false]])))), (10, AV.loc 10 2 0 0), (11, AV.map 68), (12, AV.loc 12 3 0 0), (13, B x16), (14, I x17), (15, I x24), (25, I x76)], [(3, ⟨9, ty_api_Setup, [nGSetup a0], true⟩), (9, ⟨12, ty_api_Suspension, x19 ++ ([nGSuspension (⟨a2, ⟨x12.Time, x12.Source, x12.Seq⟩, ⟨c25.Stamp.Time, c25.Stamp.Source, c25.Stamp.Seq⟩, ⟨0, 0, 0⟩, x16, false⟩)]), false⟩), (10, ⟨2, ty_api_Watch, [nGWatch r60.fst], true⟩), (12, ⟨3, ty_api_Stamp, [nGStamp x12], true⟩), (28, ⟨1, ty_bool, x79, false⟩), (68, ⟨0, ty_M_i64_L_ref29_noted, m53, false⟩)]⟩

noncomputable def k_ref29_watch_1008v13 (a0 : GSetup) (a1 : List GMarkEvent) (a2 : Int) (x12 : GStamp) (x16 : Bool) (x17 : Int) (x19 : List (List AV)) (x21 : List (List AV)) (x23 : Nat) (x24 : Int) (c25 : GMarkEvent) (m53 : List (List AV)) (r57 : Bool × Bool) (r60 : GWatch × Int) (x75 : List (List AV)) (x76 : Int) : Option (AV × Mem) := pt R_ref29_watch 1008 ⟨[(1, AV.sl 9 (List.map nGMarkEvent a1)), (2, I a2), (3, AV.loc 3 9 0 0), (8, AV.row 28 1 0 ((List.replicate (↑(List.map nGMarkEvent a1).length : Int).toNat (AV.v (Go.Value.bool false) :: List.map AV.v [])).length)), (9, AV.row 9 12 0 (List.length (x19 ++ ([[I a2, I x12.Time, I x12.Source, I x12.Seq, I c25.Stamp.Time, I c25.Stamp.Source, I c25.Stamp.Seq, I 0, I 0, I 0, B x16, B false]])))), (10, AV.loc 10 2 0 0), (11, AV.map 68), (12, AV.loc 12 3 0 0), (13, B x16), (14, I x17), (15, I x24), (25, I x76), (172, B false)], [(3, ⟨9, ty_api_Setup, [nGSetup a0], true⟩), (9, ⟨12, ty_api_Suspension, x19 ++ ([nGSuspension (⟨a2, ⟨x12.Time, x12.Source, x12.Seq⟩, ⟨c25.Stamp.Time, c25.Stamp.Source, c25.Stamp.Seq⟩, ⟨0, 0, 0⟩, x16, false⟩)]), false⟩), (10, ⟨2, ty_api_Watch, [nGWatch r60.fst], true⟩), (12, ⟨3, ty_api_Stamp, [nGStamp x12], true⟩), (28, ⟨1, ty_bool, x75, false⟩), (68, ⟨0, ty_M_i64_L_ref29_noted, m53, false⟩)]⟩

theorem t_ref29_watch_1 (a0 : GSetup) (a1 : List GMarkEvent) (a2 : Int) (x0 : List (List AV)) (x1 : GWatch) (x2 : GStamp) (x3 : List (List AV)) (x4 : List (List AV)) (x5 : Bool) (x6 : Int) {y : AV × Mem} (h : (
  brn (decide (x6 < (↑(List.map nGMarkEvent a1).length : Int))) (chk ((0 : Int) ≤ x6) <|
   elemD dGMarkEvent (List.map nGMarkEvent a1) x6.toNat fun (c7 : GMarkEvent) =>
   brn (c7.Kind == 1) (brn (c7.Marker == a2) (brn x1.Suspended (chk ((0 : Int) ≤ (w64 ((↑x0.length : Int) - 1))) <|
      chk ((w64 ((↑x0.length : Int) - 1) : Int) < (↑x0.length : Int)) <|
      elemD dGSuspension x0 (0 + (w64 ((↑x0.length : Int) - 1)).toNat) fun (c8 : GSuspension) =>
      chk ((0 : Int) ≤ (w64 ((↑x0.length : Int) - 1))) <|
      chk ((w64 ((↑x0.length : Int) - 1) : Int) < (↑x0.length : Int)) <|
      elemD dGSuspension (List.set x0 (0 + (w64 ((↑x0.length : Int) - 1)).toNat) (nGSuspension (⟨c8.Marker, ⟨c8.Good.Time, c8.Good.Source, c8.Good.Seq⟩, ⟨c8.At.Time, c8.At.Source, c8.At.Seq⟩, ⟨c8.Until.Time, c8.Until.Source, c8.Until.Seq⟩, c8.First, true⟩))) (0 + (w64 ((↑x0.length : Int) - 1)).toNat) fun (c9 : GSuspension) =>
      k_ref29_watch_1008 a0 a1 a2 (List.set (List.set x0 (0 + (w64 ((↑x0.length : Int) - 1)).toNat) (nGSuspension (⟨c8.Marker, ⟨c8.Good.Time, c8.Good.Source, c8.Good.Seq⟩, ⟨c8.At.Time, c8.At.Source, c8.At.Seq⟩, ⟨c8.Until.Time, c8.Until.Source, c8.Until.Seq⟩, c8.First, true⟩))) (0 + (w64 ((↑x0.length : Int) - 1)).toNat) (nGSuspension (⟨c9.Marker, ⟨c9.Good.Time, c9.Good.Source, c9.Good.Seq⟩, ⟨c9.At.Time, c9.At.Source, c9.At.Seq⟩, ⟨c7.Stamp.Time, c7.Stamp.Source, c7.Stamp.Seq⟩, c9.First, c9.Lifted⟩))) (⟨[], false⟩) c7.Stamp x3 [] x0.length true x6 x6)
     (k_ref29_watch_1014 a0 a1 a2 x0 x1 x2 x3 x4 x5 x6 c7))
    (k_ref29_watch_1014 a0 a1 a2 x0 x1 x2 x3 x4 x5 x6 c7))
   (k_ref29_watch_1014 a0 a1 a2 x0 x1 x2 x3 x4 x5 x6 c7))
  (chk (0 + x0.length ≤ x0.length) <|
   chk (0 + (List.replicate (↑(List.map nGMarkEvent a1).length : Int).toNat (AV.v (Go.Value.bool false) :: List.map AV.v [])).length ≤ x3.length) <|
   some (AV.tup [AV.sl 12 (List.take x0.length x0), AV.sl 1 (List.take ((List.replicate (↑(List.map nGMarkEvent a1).length : Int).toNat (AV.v (Go.Value.bool false) :: List.map AV.v [])).length) x3)], []))) = some y) : k_ref29_watch_1 a0 a1 a2 x0 x1 x2 x3 x4 x5 x6 = some y :=
  pt_of zT [8, 14, 15, 17, 19, 25, 26, 28, 29, 33] (by kernel_rfl) h

theorem t_ref29_watch_1008 (a0 : GSetup) (a1 : List GMarkEvent) (a2 : Int) (x10 : List (List AV)) (x11 : GWatch) (x12 : GStamp) (x13 : List (List AV)) (x14 : List (List AV)) (x15 : Nat) (x16 : Bool) (x17 : Int) (x18 : Int) {y : AV × Mem} (h : (
  k_ref29_watch_1v1 a0 a1 a2 x12 x16 x17 x10 x11 x13 x14 x15 (w64 (x18 + 1))) = some y) : k_ref29_watch_1008 a0 a1 a2 x10 x11 x12 x13 x14 x15 x16 x17 x18 = some y :=
  pt_of zT [8, 14, 15, 17, 19, 25, 26, 28, 29, 33] (by kernel_rfl) h

theorem t_ref29_watch_1014 (a0 : GSetup) (a1 : List GMarkEvent) (a2 : Int) (x0 : List (List AV)) (x1 : GWatch) (x2 : GStamp) (x3 : List (List AV)) (x4 : List (List AV)) (x5 : Bool) (x6 : Int) (c7 : GMarkEvent) {y : AV × Mem} (h : (
  brn (c7.Kind != 0) (k_ref29_watch_1008v1 a0 a1 a2 x0 x1 x2 x3 x4 x5 x6 c7)
  (brn (c7.Stamp.Source != a2) (k_ref29_watch_1008v1 a0 a1 a2 x0 x1 x2 x3 x4 x5 x6 c7)
   (k_ref29_watch_1015 a0 a1 a2 x0 x1 x2 x3 x4 x5 x6 c7))) = some y) : k_ref29_watch_1014 a0 a1 a2 x0 x1 x2 x3 x4 x5 x6 c7 = some y :=
  pt_of zT [8, 14, 15, 17, 19, 25, 26, 28, 29, 33] (by kernel_rfl) h

theorem t_ref29_watch_1v1 (a0 : GSetup) (a1 : List GMarkEvent) (a2 : Int) (x12 : GStamp) (x16 : Bool) (x17 : Int) (x19 : List (List AV)) (x20 : GWatch) (x21 : List (List AV)) (x22 : List (List AV)) (x23 : Nat) (x24 : Int) {y : AV × Mem} (h : (
  brn (decide (x24 < (↑(List.map nGMarkEvent a1).length : Int))) (chk ((0 : Int) ≤ x24) <|
   elemD dGMarkEvent (List.map nGMarkEvent a1) x24.toNat fun (c25 : GMarkEvent) =>
   brn (c25.Kind == 1) (brn (c25.Marker == a2) (brn x20.Suspended (chk ((0 : Int) ≤ (w64 ((↑x23 : Int) - 1))) <|
      chk ((w64 ((↑x23 : Int) - 1) : Int) < (↑x23 : Int)) <|
      elemD dGSuspension x19 (0 + (w64 ((↑x23 : Int) - 1)).toNat) fun (c26 : GSuspension) =>
      chk ((0 : Int) ≤ (w64 ((↑x23 : Int) - 1))) <|
      chk ((w64 ((↑x23 : Int) - 1) : Int) < (↑x23 : Int)) <|
      elemD dGSuspension (List.set x19 (0 + (w64 ((↑x23 : Int) - 1)).toNat) (nGSuspension (⟨c26.Marker, ⟨c26.Good.Time, c26.Good.Source, c26.Good.Seq⟩, ⟨c26.At.Time, c26.At.Source, c26.At.Seq⟩, ⟨c26.Until.Time, c26.Until.Source, c26.Until.Seq⟩, c26.First, true⟩))) (0 + (w64 ((↑x23 : Int) - 1)).toNat) fun (c27 : GSuspension) =>
      k_ref29_watch_1008 a0 a1 a2 (List.set (List.set x19 (0 + (w64 ((↑x23 : Int) - 1)).toNat) (nGSuspension (⟨c26.Marker, ⟨c26.Good.Time, c26.Good.Source, c26.Good.Seq⟩, ⟨c26.At.Time, c26.At.Source, c26.At.Seq⟩, ⟨c26.Until.Time, c26.Until.Source, c26.Until.Seq⟩, c26.First, true⟩))) (0 + (w64 ((↑x23 : Int) - 1)).toNat) (nGSuspension (⟨c27.Marker, ⟨c27.Good.Time, c27.Good.Source, c27.Good.Seq⟩, ⟨c27.At.Time, c27.At.Source, c27.At.Seq⟩, ⟨c25.Stamp.Time, c25.Stamp.Source, c25.Stamp.Seq⟩, c27.First, c27.Lifted⟩))) (⟨[], false⟩) c25.Stamp x21 [] x23 true x24 x24)
     (k_ref29_watch_1014v1 a0 a1 a2 x12 x16 x17 x19 x20 x21 x22 x23 x24 c25))
    (k_ref29_watch_1014v1 a0 a1 a2 x12 x16 x17 x19 x20 x21 x22 x23 x24 c25))
   (k_ref29_watch_1014v1 a0 a1 a2 x12 x16 x17 x19 x20 x21 x22 x23 x24 c25))
  (chk (0 + x23 ≤ x19.length) <|
   chk (0 + (List.replicate (↑(List.map nGMarkEvent a1).length : Int).toNat (AV.v (Go.Value.bool false) :: List.map AV.v [])).length ≤ x21.length) <|
   some (AV.tup [AV.sl 12 (List.take x23 x19), AV.sl 1 (List.take ((List.replicate (↑(List.map nGMarkEvent a1).length : Int).toNat (AV.v (Go.Value.bool false) :: List.map AV.v [])).length) x21)], []))) = some y) : k_ref29_watch_1v1 a0 a1 a2 x12 x16 x17 x19 x20 x21 x22 x23 x24 = some y :=
  pt_of zT [8, 14, 15, 17, 19, 25, 26, 28, 29, 33] (by kernel_rfl) h

theorem t_ref29_watch_1008v1 (a0 : GSetup) (a1 : List GMarkEvent) (a2 : Int) (x0 : List (List AV)) (x1 : GWatch) (x2 : GStamp) (x3 : List (List AV)) (x4 : List (List AV)) (x5 : Bool) (x6 : Int) (c7 : GMarkEvent) {y : AV × Mem} (h : (
  k_ref29_watch_1 a0 a1 a2 x0 x1 x2 x3 x4 x5 (w64 (x6 + 1))) = some y) : k_ref29_watch_1008v1 a0 a1 a2 x0 x1 x2 x3 x4 x5 x6 c7 = some y :=
  pt_of zT [8, 14, 15, 17, 19, 25, 26, 28, 29, 33] (by kernel_rfl) h

theorem t_ref29_watch_1015 (a0 : GSetup) (a1 : List GMarkEvent) (a2 : Int) (x0 : List (List AV)) (x1 : GWatch) (x2 : GStamp) (x3 : List (List AV)) (x4 : List (List AV)) (x5 : Bool) (x6 : Int) (c7 : GMarkEvent) {y : AV × Mem} (h : (
  brn x1.Suspended (chk ((0 : Int) ≤ x6) <|
   chk ((x6 : Int) < ((↑(List.replicate (↑(List.map nGMarkEvent a1).length : Int).toNat (AV.v (Go.Value.bool false) :: List.map AV.v [])).length : Int))) <|
   elemD dBool x3 (0 + x6.toNat) fun (c28 : Bool) =>
   k_ref29_watch_1008v2 a0 a1 a2 x0 x6 x1 x2 (List.set x3 (0 + x6.toNat) (nBool true)) x4 x5)
  (k_ref29_watch_1017 a0 a1 a2 x0 x1 x2 x3 x4 x5 x6 c7)) = some y) : k_ref29_watch_1015 a0 a1 a2 x0 x1 x2 x3 x4 x5 x6 c7 = some y :=
  pt_of zT [8, 14, 15, 17, 19, 25, 26, 28, 29, 33] (by kernel_rfl) h

theorem t_ref29_watch_1014v1 (a0 : GSetup) (a1 : List GMarkEvent) (a2 : Int) (x12 : GStamp) (x16 : Bool) (x17 : Int) (x19 : List (List AV)) (x20 : GWatch) (x21 : List (List AV)) (x22 : List (List AV)) (x23 : Nat) (x24 : Int) (c25 : GMarkEvent) {y : AV × Mem} (h : (
  brn (c25.Kind != 0) (k_ref29_watch_1008v3 a0 a1 a2 x12 x16 x17 x19 x20 x21 x22 x23 x24 c25)
  (brn (c25.Stamp.Source != a2) (k_ref29_watch_1008v3 a0 a1 a2 x12 x16 x17 x19 x20 x21 x22 x23 x24 c25)
   (k_ref29_watch_1015v1 a0 a1 a2 x12 x16 x17 x19 x20 x21 x22 x23 x24 c25))) = some y) : k_ref29_watch_1014v1 a0 a1 a2 x12 x16 x17 x19 x20 x21 x22 x23 x24 c25 = some y :=
  pt_of zT [8, 14, 15, 17, 19, 25, 26, 28, 29, 33] (by kernel_rfl) h

theorem t_ref29_watch_1008v2 (a0 : GSetup) (a1 : List GMarkEvent) (a2 : Int) (x0 : List (List AV)) (x6 : Int) (x29 : GWatch) (x30 : GStamp) (x31 : List (List AV)) (x32 : List (List AV)) (x33 : Bool) {y : AV × Mem} (h : (
  k_ref29_watch_1 a0 a1 a2 x0 x29 x30 x31 x32 x33 (w64 (x6 + 1))) = some y) : k_ref29_watch_1008v2 a0 a1 a2 x0 x6 x29 x30 x31 x32 x33 = some y :=
  pt_of zT [8, 14, 15, 17, 19, 25, 26, 28, 29, 33] (by kernel_rfl) h

theorem t_ref29_watch_1017 (a0 : GSetup) (a1 : List GMarkEvent) (a2 : Int) (x0 : List (List AV)) (x1 : GWatch) (x2 : GStamp) (x3 : List (List AV)) (x4 : List (List AV)) (x5 : Bool) (x6 : Int) (c7 : GMarkEvent) {y : AV × Mem} (h : (
  callD r_ref26_Definitive (cw f_ref26_Definitive [AV.sl 2 (List.map nGSeed a0.Seeds), I c7.Script] []) fun (r34 : (List Int) × Bool) =>
  brn (!r34.snd) (k_ref29_watch_1008v4 a0 a1 a2 x0 x1 x2 x3 x4 x5 x6 c7)
  (callD r_ref29_Fits (cw f_ref29_Fits [AV.agg (nGSetup a0), AV.agg (nGMarkEvent c7)] []) fun (r35 : Bool) =>
   brn (!r35) (k_ref29_watch_1008v4 a0 a1 a2 x0 x1 x2 x3 x4 x5 x6 c7)
   (k_ref29_watch_1019 a0 a1 a2 x0 x1 x2 x3 x4 x5 x6 c7))) = some y) : k_ref29_watch_1017 a0 a1 a2 x0 x1 x2 x3 x4 x5 x6 c7 = some y :=
  pt_of zT [8, 14, 15, 17, 19, 25, 26, 28, 29, 33] (by kernel_rfl) h

theorem t_ref29_watch_1008v3 (a0 : GSetup) (a1 : List GMarkEvent) (a2 : Int) (x12 : GStamp) (x16 : Bool) (x17 : Int) (x19 : List (List AV)) (x20 : GWatch) (x21 : List (List AV)) (x22 : List (List AV)) (x23 : Nat) (x24 : Int) (c25 : GMarkEvent) {y : AV × Mem} (h : (
  k_ref29_watch_1v1 a0 a1 a2 x12 x16 x17 x19 x20 x21 x22 x23 (w64 (x24 + 1))) = some y) : k_ref29_watch_1008v3 a0 a1 a2 x12 x16 x17 x19 x20 x21 x22 x23 x24 c25 = some y :=
  pt_of zT [8, 14, 15, 17, 19, 25, 26, 28, 29, 33] (by kernel_rfl) h

theorem t_ref29_watch_1015v1 (a0 : GSetup) (a1 : List GMarkEvent) (a2 : Int) (x12 : GStamp) (x16 : Bool) (x17 : Int) (x19 : List (List AV)) (x20 : GWatch) (x21 : List (List AV)) (x22 : List (List AV)) (x23 : Nat) (x24 : Int) (c25 : GMarkEvent) {y : AV × Mem} (h : (
  brn x20.Suspended (chk ((0 : Int) ≤ x24) <|
   chk ((x24 : Int) < ((↑(List.replicate (↑(List.map nGMarkEvent a1).length : Int).toNat (AV.v (Go.Value.bool false) :: List.map AV.v [])).length : Int))) <|
   elemD dBool x21 (0 + x24.toNat) fun (c36 : Bool) =>
   k_ref29_watch_1008 a0 a1 a2 x19 x20 x12 (List.set x21 (0 + x24.toNat) (nBool true)) x22 x23 x16 x17 x24)
  (k_ref29_watch_1017v1 a0 a1 a2 x12 x16 x17 x19 x20 x21 x22 x23 x24 c25)) = some y) : k_ref29_watch_1015v1 a0 a1 a2 x12 x16 x17 x19 x20 x21 x22 x23 x24 c25 = some y :=
  pt_of zT [8, 14, 15, 17, 19, 25, 26, 28, 29, 33] (by kernel_rfl) h

theorem t_ref29_watch_1008v4 (a0 : GSetup) (a1 : List GMarkEvent) (a2 : Int) (x0 : List (List AV)) (x1 : GWatch) (x2 : GStamp) (x3 : List (List AV)) (x4 : List (List AV)) (x5 : Bool) (x6 : Int) (c7 : GMarkEvent) {y : AV × Mem} (h : (
  k_ref29_watch_1 a0 a1 a2 x0 x1 x2 x3 x4 x5 (w64 (x6 + 1))) = some y) : k_ref29_watch_1008v4 a0 a1 a2 x0 x1 x2 x3 x4 x5 x6 c7 = some y :=
  pt_of zT [8, 14, 15, 17, 19, 25, 26, 28, 29, 33] (by kernel_rfl) h

theorem t_ref29_watch_1019 (a0 : GSetup) (a1 : List GMarkEvent) (a2 : Int) (x0 : List (List AV)) (x1 : GWatch) (x2 : GStamp) (x3 : List (List AV)) (x4 : List (List AV)) (x5 : Bool) (x6 : Int) (c7 : GMarkEvent) {y : AV × Mem} (h : (
  mapD zP 3 false dL_Gref29Noted (AV.sl 2 (List.map nGref29Noted [])) x4 (I c7.Script) fun (c37 : List Gref29Noted) (b38 : Bool) =>
  k_ref29_watch_2 a0 a1 a2 x0 x1 x2 x3 x4 x5 x6 c7 c37 false 0) = some y) : k_ref29_watch_1019 a0 a1 a2 x0 x1 x2 x3 x4 x5 x6 c7 = some y :=
  pt_of zT [8, 14, 15, 17, 19, 25, 26, 28, 29, 33] (by kernel_rfl) h

theorem t_ref29_watch_1017v1 (a0 : GSetup) (a1 : List GMarkEvent) (a2 : Int) (x12 : GStamp) (x16 : Bool) (x17 : Int) (x19 : List (List AV)) (x20 : GWatch) (x21 : List (List AV)) (x22 : List (List AV)) (x23 : Nat) (x24 : Int) (c25 : GMarkEvent) {y : AV × Mem} (h : (
  callD r_ref26_Definitive (cw f_ref26_Definitive [AV.sl 2 (List.map nGSeed a0.Seeds), I c25.Script] []) fun (r41 : (List Int) × Bool) =>
  brn (!r41.snd) (k_ref29_watch_1008v5 a0 a1 a2 x12 x16 x17 x19 x20 x21 x22 x23 x24 c25)
  (callD r_ref29_Fits (cw f_ref29_Fits [AV.agg (nGSetup a0), AV.agg (nGMarkEvent c25)] []) fun (r42 : Bool) =>
   brn (!r42) (k_ref29_watch_1008v5 a0 a1 a2 x12 x16 x17 x19 x20 x21 x22 x23 x24 c25)
   (k_ref29_watch_1019v1 a0 a1 a2 x12 x16 x17 x19 x20 x21 x22 x23 x24 c25))) = some y) : k_ref29_watch_1017v1 a0 a1 a2 x12 x16 x17 x19 x20 x21 x22 x23 x24 c25 = some y :=
  pt_of zT [8, 14, 15, 17, 19, 25, 26, 28, 29, 33] (by kernel_rfl) h

theorem t_ref29_watch_2 (a0 : GSetup) (a1 : List GMarkEvent) (a2 : Int) (x0 : List (List AV)) (x1 : GWatch) (x2 : GStamp) (x3 : List (List AV)) (x4 : List (List AV)) (x5 : Bool) (x6 : Int) (c7 : GMarkEvent) (c37 : List Gref29Noted) (x39 : Bool) (x40 : Int) {y : AV × Mem} (h : (
  brn (decide (x40 < (↑(List.map nGref29Noted c37).length : Int))) (brn x39 (k_ref29_watch_2 a0 a1 a2 x0 x1 x2 x3 x4 x5 x6 c7 c37 true (w64 (x40 + 1)))
   (chk ((0 : Int) ≤ x40) <|
    elemD dGref29Noted (List.map nGref29Noted c37) x40.toNat fun (c43 : Gref29Noted) =>
    k_ref29_watch_2 a0 a1 a2 x0 x1 x2 x3 x4 x5 x6 c7 c37 (c43.part == c7.Part) (w64 (x40 + 1))))
  (brn x39 (k_ref29_watch_1008v6 a0 a1 a2 x0 x1 x2 x3 x4 x5 x6 c7 c37)
   (k_ref29_watch_1025 a0 a1 a2 x0 x1 x2 x3 x4 x5 x6 c7 c37))) = some y) : k_ref29_watch_2 a0 a1 a2 x0 x1 x2 x3 x4 x5 x6 c7 c37 x39 x40 = some y :=
  pt_of zT [8, 14, 15, 17, 19, 25, 26, 28, 29, 33] (by kernel_rfl) h

theorem t_ref29_watch_1008v5 (a0 : GSetup) (a1 : List GMarkEvent) (a2 : Int) (x12 : GStamp) (x16 : Bool) (x17 : Int) (x19 : List (List AV)) (x20 : GWatch) (x21 : List (List AV)) (x22 : List (List AV)) (x23 : Nat) (x24 : Int) (c25 : GMarkEvent) {y : AV × Mem} (h : (
  k_ref29_watch_1v1 a0 a1 a2 x12 x16 x17 x19 x20 x21 x22 x23 (w64 (x24 + 1))) = some y) : k_ref29_watch_1008v5 a0 a1 a2 x12 x16 x17 x19 x20 x21 x22 x23 x24 c25 = some y :=
  pt_of zT [8, 14, 15, 17, 19, 25, 26, 28, 29, 33] (by kernel_rfl) h

theorem t_ref29_watch_1019v1 (a0 : GSetup) (a1 : List GMarkEvent) (a2 : Int) (x12 : GStamp) (x16 : Bool) (x17 : Int) (x19 : List (List AV)) (x20 : GWatch) (x21 : List (List AV)) (x22 : List (List AV)) (x23 : Nat) (x24 : Int) (c25 : GMarkEvent) {y : AV × Mem} (h : (
  mapD zP 3 false dL_Gref29Noted (AV.sl 2 (List.map nGref29Noted [])) x22 (I c25.Script) fun (c44 : List Gref29Noted) (b45 : Bool) =>
  k_ref29_watch_2v1 a0 a1 a2 x12 x16 x17 x19 x20 x21 x22 x23 x24 c25 c44 false 0) = some y) : k_ref29_watch_1019v1 a0 a1 a2 x12 x16 x17 x19 x20 x21 x22 x23 x24 c25 = some y :=
  pt_of zT [8, 14, 15, 17, 19, 25, 26, 28, 29, 33] (by kernel_rfl) h

theorem t_ref29_watch_1008v6 (a0 : GSetup) (a1 : List GMarkEvent) (a2 : Int) (x0 : List (List AV)) (x1 : GWatch) (x2 : GStamp) (x3 : List (List AV)) (x4 : List (List AV)) (x5 : Bool) (x6 : Int) (c7 : GMarkEvent) (c37 : List Gref29Noted) {y : AV × Mem} (h : (
  k_ref29_watch_1 a0 a1 a2 x0 x1 x2 x3 x4 x5 (w64 (x6 + 1))) = some y) : k_ref29_watch_1008v6 a0 a1 a2 x0 x1 x2 x3 x4 x5 x6 c7 c37 = some y :=
  pt_of zT [8, 14, 15, 17, 19, 25, 26, 28, 29, 33] (by kernel_rfl) h

theorem t_ref29_watch_1025 (a0 : GSetup) (a1 : List GMarkEvent) (a2 : Int) (x0 : List (List AV)) (x1 : GWatch) (x2 : GStamp) (x3 : List (List AV)) (x4 : List (List AV)) (x5 : Bool) (x6 : Int) (c7 : GMarkEvent) (c37 : List Gref29Noted) {y : AV × Mem} (h : (
  chk ((List.map nGref29Noted c37).length * (16 + 1) ≤ 1099511627776) <|
  chk ((List.map nGref29Noted c37).length = (List.map nGref29Noted c37).length) <|
  chk (((List.map nGref29Noted c37).length + 1) * (16 + 1) ≤ 1099511627776) <|
  chk (0 + (List.map nGref29Noted c37 ++ [[AV.v (Go.Value.int IntKind.i64 c7.Part), AV.v (Go.Value.int IntKind.i64 c7.Value)]]).length ≤ (List.map nGref29Noted c37 ++ [[AV.v (Go.Value.int IntKind.i64 c7.Part), AV.v (Go.Value.int IntKind.i64 c7.Value)]]).length) <|
  msetD zP 3 168 (I c7.Script) (AV.sl 2 (List.take ((List.map nGref29Noted c37 ++ [[AV.v (Go.Value.int IntKind.i64 c7.Part), AV.v (Go.Value.int IntKind.i64 c7.Value)]]).length) ((List.map nGref29Noted c37) ++ ([nGref29Noted (⟨c7.Part, c7.Value⟩)])))) x4 fun (m48 : List (List AV)) =>
  chk (0 + (List.map nGref29Noted c37 ++ [[AV.v (Go.Value.int IntKind.i64 c7.Part), AV.v (Go.Value.int IntKind.i64 c7.Value)]]).length ≤ (List.map nGref29Noted c37 ++ [[AV.v (Go.Value.int IntKind.i64 c7.Part), AV.v (Go.Value.int IntKind.i64 c7.Value)]]).length) <|
  k_ref29_watch_1026 a0 a1 a2 x0 x1 x2 x3 x5 x6 c7 m48) = some y) : k_ref29_watch_1025 a0 a1 a2 x0 x1 x2 x3 x4 x5 x6 c7 c37 = some y :=
  pt_of zT [8, 14, 15, 17, 19, 25, 26, 28, 29, 33] (by kernel_rfl) h

theorem t_ref29_watch_2v1 (a0 : GSetup) (a1 : List GMarkEvent) (a2 : Int) (x12 : GStamp) (x16 : Bool) (x17 : Int) (x19 : List (List AV)) (x20 : GWatch) (x21 : List (List AV)) (x22 : List (List AV)) (x23 : Nat) (x24 : Int) (c25 : GMarkEvent) (c44 : List Gref29Noted) (x46 : Bool) (x47 : Int) {y : AV × Mem} (h : (
  brn (decide (x47 < (↑(List.map nGref29Noted c44).length : Int))) (brn x46 (k_ref29_watch_2v1 a0 a1 a2 x12 x16 x17 x19 x20 x21 x22 x23 x24 c25 c44 true (w64 (x47 + 1)))
   (chk ((0 : Int) ≤ x47) <|
    elemD dGref29Noted (List.map nGref29Noted c44) x47.toNat fun (c49 : Gref29Noted) =>
    k_ref29_watch_2v1 a0 a1 a2 x12 x16 x17 x19 x20 x21 x22 x23 x24 c25 c44 (c49.part == c25.Part) (w64 (x47 + 1))))
  (brn x46 (k_ref29_watch_1008v7 a0 a1 a2 x12 x16 x17 x19 x20 x21 x22 x23 x24 c25 c44)
   (k_ref29_watch_1025v1 a0 a1 a2 x12 x16 x17 x19 x20 x21 x22 x23 x24 c25 c44))) = some y) : k_ref29_watch_2v1 a0 a1 a2 x12 x16 x17 x19 x20 x21 x22 x23 x24 c25 c44 x46 x47 = some y :=
  pt_of zT [8, 14, 15, 17, 19, 25, 26, 28, 29, 33] (by kernel_rfl) h

theorem t_ref29_watch_1026 (a0 : GSetup) (a1 : List GMarkEvent) (a2 : Int) (x0 : List (List AV)) (x1 : GWatch) (x2 : GStamp) (x3 : List (List AV)) (x5 : Bool) (x6 : Int) (c7 : GMarkEvent) (m48 : List (List AV)) {y : AV × Mem} (h : (
  mapD zP 3 false dL_Gref29Noted (AV.sl 2 (List.map nGref29Noted [])) m48 (I c7.Script) fun (c50 : List Gref29Noted) (b51 : Bool) =>
  callD r_ref29_judge (cw f_ref29_judge [AV.agg (nGSetup a0), I c7.Script, AV.sl 2 (List.map nGref29Noted c50)] []) fun (r52 : Bool × Bool) =>
  brn (!r52.fst) (k_ref29_watch_1008v8 a0 a1 a2 x0 x1 x2 x3 x5 x6 c7 m48 r52)
  (k_ref29_watch_1028 a0 a1 a2 x0 x1 x2 x3 x5 x6 c7 m48 r52)) = some y) : k_ref29_watch_1026 a0 a1 a2 x0 x1 x2 x3 x5 x6 c7 m48 = some y :=
  pt_of zT [8, 14, 15, 17, 19, 25, 26, 28, 29, 33] (by kernel_rfl) h

theorem t_ref29_watch_1008v7 (a0 : GSetup) (a1 : List GMarkEvent) (a2 : Int) (x12 : GStamp) (x16 : Bool) (x17 : Int) (x19 : List (List AV)) (x20 : GWatch) (x21 : List (List AV)) (x22 : List (List AV)) (x23 : Nat) (x24 : Int) (c25 : GMarkEvent) (c44 : List Gref29Noted) {y : AV × Mem} (h : (
  k_ref29_watch_1v1 a0 a1 a2 x12 x16 x17 x19 x20 x21 x22 x23 (w64 (x24 + 1))) = some y) : k_ref29_watch_1008v7 a0 a1 a2 x12 x16 x17 x19 x20 x21 x22 x23 x24 c25 c44 = some y :=
  pt_of zT [8, 14, 15, 17, 19, 25, 26, 28, 29, 33] (by kernel_rfl) h

theorem t_ref29_watch_1025v1 (a0 : GSetup) (a1 : List GMarkEvent) (a2 : Int) (x12 : GStamp) (x16 : Bool) (x17 : Int) (x19 : List (List AV)) (x20 : GWatch) (x21 : List (List AV)) (x22 : List (List AV)) (x23 : Nat) (x24 : Int) (c25 : GMarkEvent) (c44 : List Gref29Noted) {y : AV × Mem} (h : (
  chk ((List.map nGref29Noted c44).length * (16 + 1) ≤ 1099511627776) <|
  chk ((List.map nGref29Noted c44).length = (List.map nGref29Noted c44).length) <|
  chk (((List.map nGref29Noted c44).length + 1) * (16 + 1) ≤ 1099511627776) <|
  chk (0 + (List.map nGref29Noted c44 ++ [[AV.v (Go.Value.int IntKind.i64 c25.Part), AV.v (Go.Value.int IntKind.i64 c25.Value)]]).length ≤ (List.map nGref29Noted c44 ++ [[AV.v (Go.Value.int IntKind.i64 c25.Part), AV.v (Go.Value.int IntKind.i64 c25.Value)]]).length) <|
  msetD zP 3 168 (I c25.Script) (AV.sl 2 (List.take ((List.map nGref29Noted c44 ++ [[AV.v (Go.Value.int IntKind.i64 c25.Part), AV.v (Go.Value.int IntKind.i64 c25.Value)]]).length) ((List.map nGref29Noted c44) ++ ([nGref29Noted (⟨c25.Part, c25.Value⟩)])))) x22 fun (m53 : List (List AV)) =>
  chk (0 + (List.map nGref29Noted c44 ++ [[AV.v (Go.Value.int IntKind.i64 c25.Part), AV.v (Go.Value.int IntKind.i64 c25.Value)]]).length ≤ (List.map nGref29Noted c44 ++ [[AV.v (Go.Value.int IntKind.i64 c25.Part), AV.v (Go.Value.int IntKind.i64 c25.Value)]]).length) <|
  k_ref29_watch_1026v1 a0 a1 a2 x12 x16 x17 x19 x20 x21 x23 x24 c25 m53) = some y) : k_ref29_watch_1025v1 a0 a1 a2 x12 x16 x17 x19 x20 x21 x22 x23 x24 c25 c44 = some y :=
  pt_of zT [8, 14, 15, 17, 19, 25, 26, 28, 29, 33] (by kernel_rfl) h

theorem t_ref29_watch_1008v8 (a0 : GSetup) (a1 : List GMarkEvent) (a2 : Int) (x0 : List (List AV)) (x1 : GWatch) (x2 : GStamp) (x3 : List (List AV)) (x5 : Bool) (x6 : Int) (c7 : GMarkEvent) (m48 : List (List AV)) (r52 : Bool × Bool) {y : AV × Mem} (h : (
  k_ref29_watch_1 a0 a1 a2 x0 x1 x2 x3 m48 x5 (w64 (x6 + 1))) = some y) : k_ref29_watch_1008v8 a0 a1 a2 x0 x1 x2 x3 x5 x6 c7 m48 r52 = some y :=
  pt_of zT [8, 14, 15, 17, 19, 25, 26, 28, 29, 33] (by kernel_rfl) h

theorem t_ref29_watch_1028 (a0 : GSetup) (a1 : List GMarkEvent) (a2 : Int) (x0 : List (List AV)) (x1 : GWatch) (x2 : GStamp) (x3 : List (List AV)) (x5 : Bool) (x6 : Int) (c7 : GMarkEvent) (m48 : List (List AV)) (r52 : Bool × Bool) {y : AV × Mem} (h : (
  callD r_ref27_Step (cw f_ref27_Step [AV.agg (nGMonitorRule a0.Monitor), AV.agg (nGWatch x1), B r52.snd] []) fun (r54 : GWatch × Int) =>
  k_ref29_watch_1029 a0 a1 a2 x0 x2 x3 x5 x6 c7 m48 r52 r54) = some y) : k_ref29_watch_1028 a0 a1 a2 x0 x1 x2 x3 x5 x6 c7 m48 r52 = some y :=
  pt_of zT [8, 14, 15, 17, 19, 25, 26, 28, 29, 33] (by kernel_rfl) h

theorem t_ref29_watch_1026v1 (a0 : GSetup) (a1 : List GMarkEvent) (a2 : Int) (x12 : GStamp) (x16 : Bool) (x17 : Int) (x19 : List (List AV)) (x20 : GWatch) (x21 : List (List AV)) (x23 : Nat) (x24 : Int) (c25 : GMarkEvent) (m53 : List (List AV)) {y : AV × Mem} (h : (
  mapD zP 3 false dL_Gref29Noted (AV.sl 2 (List.map nGref29Noted [])) m53 (I c25.Script) fun (c55 : List Gref29Noted) (b56 : Bool) =>
  callD r_ref29_judge (cw f_ref29_judge [AV.agg (nGSetup a0), I c25.Script, AV.sl 2 (List.map nGref29Noted c55)] []) fun (r57 : Bool × Bool) =>
  brn (!r57.fst) (k_ref29_watch_1008v9 a0 a1 a2 x12 x16 x17 x19 x20 x21 x23 x24 c25 m53 r57)
  (k_ref29_watch_1028v1 a0 a1 a2 x12 x16 x17 x19 x20 x21 x23 x24 c25 m53 r57)) = some y) : k_ref29_watch_1026v1 a0 a1 a2 x12 x16 x17 x19 x20 x21 x23 x24 c25 m53 = some y :=
  pt_of zT [8, 14, 15, 17, 19, 25, 26, 28, 29, 33] (by kernel_rfl) h

theorem t_ref29_watch_1029 (a0 : GSetup) (a1 : List GMarkEvent) (a2 : Int) (x0 : List (List AV)) (x2 : GStamp) (x3 : List (List AV)) (x5 : Bool) (x6 : Int) (c7 : GMarkEvent) (m48 : List (List AV)) (r52 : Bool × Bool) (r54 : GWatch × Int) {y : AV × Mem} (h : (
  brn r54.fst.Suspended (chk (x0.length = x0.length) <|
   chk ((x0.length + 1) * (88 + 1) ≤ 1099511627776) <|
   chk ((x0 ++ [[AV.v (Go.Value.int IntKind.i64 a2), AV.v (Go.Value.int IntKind.i64 x2.Time), AV.v (Go.Value.int IntKind.i64 x2.Source), AV.v (Go.Value.int IntKind.i64 x2.Seq), AV.v (Go.Value.int IntKind.i64 c7.Stamp.Time), AV.v (Go.Value.int IntKind.i64 c7.Stamp.Source), AV.v (Go.Value.int IntKind.i64 c7.Stamp.Seq), AV.v (Go.Value.int IntKind.i64 0), AV.v (Go.Value.int IntKind.i64 0), AV.v (Go.Value.int IntKind.i64 0), AV.v (Go.Value.bool x5), AV.v (Go.Value.bool false)]]).length = (x0 ++ [[AV.v (Go.Value.int IntKind.i64 a2), AV.v (Go.Value.int IntKind.i64 x2.Time), AV.v (Go.Value.int IntKind.i64 x2.Source), AV.v (Go.Value.int IntKind.i64 x2.Seq), AV.v (Go.Value.int IntKind.i64 c7.Stamp.Time), AV.v (Go.Value.int IntKind.i64 c7.Stamp.Source), AV.v (Go.Value.int IntKind.i64 c7.Stamp.Seq), AV.v (Go.Value.int IntKind.i64 0), AV.v (Go.Value.int IntKind.i64 0), AV.v (Go.Value.int IntKind.i64 0), AV.v (Go.Value.bool x5), AV.v (Go.Value.bool false)]]).length) <|
   k_ref29_watch_3 a0 a1 a2 x0 x2 x3 x5 x6 c7 m48 r52 r54 x3 0)
  (brn r52.snd (k_ref29_watch_1008v2 a0 a1 a2 x0 x6 r54.fst c7.Stamp x3 m48 false)
   (k_ref29_watch_1008v10 a0 a1 a2 x0 x2 x3 x5 x6 c7 m48 r54))) = some y) : k_ref29_watch_1029 a0 a1 a2 x0 x2 x3 x5 x6 c7 m48 r52 r54 = some y :=
  pt_of zT [8, 14, 15, 17, 19, 25, 26, 28, 29, 33] (by kernel_rfl) h

theorem t_ref29_watch_1008v9 (a0 : GSetup) (a1 : List GMarkEvent) (a2 : Int) (x12 : GStamp) (x16 : Bool) (x17 : Int) (x19 : List (List AV)) (x20 : GWatch) (x21 : List (List AV)) (x23 : Nat) (x24 : Int) (c25 : GMarkEvent) (m53 : List (List AV)) (r57 : Bool × Bool) {y : AV × Mem} (h : (
  k_ref29_watch_1v1 a0 a1 a2 x12 x16 x17 x19 x20 x21 m53 x23 (w64 (x24 + 1))) = some y) : k_ref29_watch_1008v9 a0 a1 a2 x12 x16 x17 x19 x20 x21 x23 x24 c25 m53 r57 = some y :=
  pt_of zT [8, 14, 15, 17, 19, 25, 26, 28, 29, 33] (by kernel_rfl) h

theorem t_ref29_watch_1028v1 (a0 : GSetup) (a1 : List GMarkEvent) (a2 : Int) (x12 : GStamp) (x16 : Bool) (x17 : Int) (x19 : List (List AV)) (x20 : GWatch) (x21 : List (List AV)) (x23 : Nat) (x24 : Int) (c25 : GMarkEvent) (m53 : List (List AV)) (r57 : Bool × Bool) {y : AV × Mem} (h : (
  callD r_ref27_Step (cw f_ref27_Step [AV.agg (nGMonitorRule a0.Monitor), AV.agg (nGWatch x20), B r57.snd] []) fun (r60 : GWatch × Int) =>
  k_ref29_watch_1029v1 a0 a1 a2 x12 x16 x17 x19 x21 x23 x24 c25 m53 r57 r60) = some y) : k_ref29_watch_1028v1 a0 a1 a2 x12 x16 x17 x19 x20 x21 x23 x24 c25 m53 r57 = some y :=
  pt_of zT [8, 14, 15, 17, 19, 25, 26, 28, 29, 33] (by kernel_rfl) h

theorem t_ref29_watch_3 (a0 : GSetup) (a1 : List GMarkEvent) (a2 : Int) (x0 : List (List AV)) (x2 : GStamp) (x3 : List (List AV)) (x5 : Bool) (x6 : Int) (c7 : GMarkEvent) (m48 : List (List AV)) (r52 : Bool × Bool) (r54 : GWatch × Int) (x58 : List (List AV)) (x59 : Int) {y : AV × Mem} (h : (
  brn (decide (x59 ≤ x6)) (chk ((0 : Int) ≤ x59) <|
   chk ((x59 : Int) < ((↑(List.replicate (↑(List.map nGMarkEvent a1).length : Int).toNat (AV.v (Go.Value.bool false) :: List.map AV.v [])).length : Int))) <|
   elemD dBool x58 (0 + x59.toNat) fun (c61 : Bool) =>
   brn c61 (chk ((0 : Int) ≤ x59) <|
    chk ((x59 : Int) < ((↑(List.replicate (↑(List.map nGMarkEvent a1).length : Int).toNat (AV.v (Go.Value.bool false) :: List.map AV.v [])).length : Int))) <|
    elemD dBool x58 (0 + x59.toNat) fun (c62 : Bool) =>
    k_ref29_watch_1033 a0 a1 a2 x0 x2 x3 x5 x6 c7 m48 r52 r54 x59 (List.set x58 (0 + x59.toNat) (nBool true)))
   (chk ((0 : Int) ≤ x59) <|
    elemD dGMarkEvent (List.map nGMarkEvent a1) x59.toNat fun (c64 : GMarkEvent) =>
    brn (c64.Kind == 0) (chk ((0 : Int) ≤ x59) <|
     elemD dGMarkEvent (List.map nGMarkEvent a1) x59.toNat fun (c65 : GMarkEvent) =>
     brn (c65.Stamp.Source == a2) (brn x5 (brn ((↑(x0 ++ [[AV.v (Go.Value.int IntKind.i64 a2), AV.v (Go.Value.int IntKind.i64 x2.Time), AV.v (Go.Value.int IntKind.i64 x2.Source), AV.v (Go.Value.int IntKind.i64 x2.Seq), AV.v (Go.Value.int IntKind.i64 c7.Stamp.Time), AV.v (Go.Value.int IntKind.i64 c7.Stamp.Source), AV.v (Go.Value.int IntKind.i64 c7.Stamp.Seq), AV.v (Go.Value.int IntKind.i64 0), AV.v (Go.Value.int IntKind.i64 0), AV.v (Go.Value.int IntKind.i64 0), AV.v (Go.Value.bool x5), AV.v (Go.Value.bool false)]]).length : Int) == 1) (chk ((0 : Int) ≤ x59) <|
        chk ((x59 : Int) < ((↑(List.replicate (↑(List.map nGMarkEvent a1).length : Int).toNat (AV.v (Go.Value.bool false) :: List.map AV.v [])).length : Int))) <|
        elemD dBool x58 (0 + x59.toNat) fun (c66 : Bool) =>
        k_ref29_watch_1033 a0 a1 a2 x0 x2 x3 x5 x6 c7 m48 r52 r54 x59 (List.set x58 (0 + x59.toNat) (nBool true)))
       (chk ((0 : Int) ≤ x59) <|
        elemD dGMarkEvent (List.map nGMarkEvent a1) x59.toNat fun (c67 : GMarkEvent) =>
        callD r_ref28_Less (cw f_ref28_Less [AV.agg (nGStamp x2), AV.agg (nGStamp c67.Stamp)] []) fun (r68 : Bool) =>
        chk ((0 : Int) ≤ x59) <|
        chk ((x59 : Int) < ((↑(List.replicate (↑(List.map nGMarkEvent a1).length : Int).toNat (AV.v (Go.Value.bool false) :: List.map AV.v [])).length : Int))) <|
        elemD dBool x58 (0 + x59.toNat) fun (c69 : Bool) =>
        k_ref29_watch_1033 a0 a1 a2 x0 x2 x3 x5 x6 c7 m48 r52 r54 x59 (List.set x58 (0 + x59.toNat) (nBool r68))))
      (chk ((0 : Int) ≤ x59) <|
       elemD dGMarkEvent (List.map nGMarkEvent a1) x59.toNat fun (c70 : GMarkEvent) =>
       callD r_ref28_Less (cw f_ref28_Less [AV.agg (nGStamp x2), AV.agg (nGStamp c70.Stamp)] []) fun (r71 : Bool) =>
       chk ((0 : Int) ≤ x59) <|
       chk ((x59 : Int) < ((↑(List.replicate (↑(List.map nGMarkEvent a1).length : Int).toNat (AV.v (Go.Value.bool false) :: List.map AV.v [])).length : Int))) <|
       elemD dBool x58 (0 + x59.toNat) fun (c72 : Bool) =>
       k_ref29_watch_1033 a0 a1 a2 x0 x2 x3 x5 x6 c7 m48 r52 r54 x59 (List.set x58 (0 + x59.toNat) (nBool r71))))
     (chk ((0 : Int) ≤ x59) <|
      chk ((x59 : Int) < ((↑(List.replicate (↑(List.map nGMarkEvent a1).length : Int).toNat (AV.v (Go.Value.bool false) :: List.map AV.v [])).length : Int))) <|
      elemD dBool x58 (0 + x59.toNat) fun (c73 : Bool) =>
      k_ref29_watch_1033 a0 a1 a2 x0 x2 x3 x5 x6 c7 m48 r52 r54 x59 (List.set x58 (0 + x59.toNat) (nBool false))))
    (chk ((0 : Int) ≤ x59) <|
     chk ((x59 : Int) < ((↑(List.replicate (↑(List.map nGMarkEvent a1).length : Int).toNat (AV.v (Go.Value.bool false) :: List.map AV.v [])).length : Int))) <|
     elemD dBool x58 (0 + x59.toNat) fun (c74 : Bool) =>
     k_ref29_watch_1033 a0 a1 a2 x0 x2 x3 x5 x6 c7 m48 r52 r54 x59 (List.set x58 (0 + x59.toNat) (nBool false)))))
  (k_ref29_watch_1008v11 a0 a1 a2 x0 x2 x3 x5 x6 c7 m48 r52 r54 x58 x59)) = some y) : k_ref29_watch_3 a0 a1 a2 x0 x2 x3 x5 x6 c7 m48 r52 r54 x58 x59 = some y :=
  pt_of zT [8, 14, 15, 17, 19, 25, 26, 28, 29, 33] (by kernel_rfl) h

theorem t_ref29_watch_1008v10 (a0 : GSetup) (a1 : List GMarkEvent) (a2 : Int) (x0 : List (List AV)) (x2 : GStamp) (x3 : List (List AV)) (x5 : Bool) (x6 : Int) (c7 : GMarkEvent) (m48 : List (List AV)) (r54 : GWatch × Int) {y : AV × Mem} (h : (
  k_ref29_watch_1 a0 a1 a2 x0 r54.fst x2 x3 m48 x5 (w64 (x6 + 1))) = some y) : k_ref29_watch_1008v10 a0 a1 a2 x0 x2 x3 x5 x6 c7 m48 r54 = some y :=
  pt_of zT [8, 14, 15, 17, 19, 25, 26, 28, 29, 33] (by kernel_rfl) h

theorem t_ref29_watch_1029v1 (a0 : GSetup) (a1 : List GMarkEvent) (a2 : Int) (x12 : GStamp) (x16 : Bool) (x17 : Int) (x19 : List (List AV)) (x21 : List (List AV)) (x23 : Nat) (x24 : Int) (c25 : GMarkEvent) (m53 : List (List AV)) (r57 : Bool × Bool) (r60 : GWatch × Int) {y : AV × Mem} (h : (
  brn r60.fst.Suspended (chk (x23 = x19.length) <|
   chk ((x19.length + 1) * (88 + 1) ≤ 1099511627776) <|
   chk ((x19 ++ [[AV.v (Go.Value.int IntKind.i64 a2), AV.v (Go.Value.int IntKind.i64 x12.Time), AV.v (Go.Value.int IntKind.i64 x12.Source), AV.v (Go.Value.int IntKind.i64 x12.Seq), AV.v (Go.Value.int IntKind.i64 c25.Stamp.Time), AV.v (Go.Value.int IntKind.i64 c25.Stamp.Source), AV.v (Go.Value.int IntKind.i64 c25.Stamp.Seq), AV.v (Go.Value.int IntKind.i64 0), AV.v (Go.Value.int IntKind.i64 0), AV.v (Go.Value.int IntKind.i64 0), AV.v (Go.Value.bool x16), AV.v (Go.Value.bool false)]]).length = (x19 ++ [[AV.v (Go.Value.int IntKind.i64 a2), AV.v (Go.Value.int IntKind.i64 x12.Time), AV.v (Go.Value.int IntKind.i64 x12.Source), AV.v (Go.Value.int IntKind.i64 x12.Seq), AV.v (Go.Value.int IntKind.i64 c25.Stamp.Time), AV.v (Go.Value.int IntKind.i64 c25.Stamp.Source), AV.v (Go.Value.int IntKind.i64 c25.Stamp.Seq), AV.v (Go.Value.int IntKind.i64 0), AV.v (Go.Value.int IntKind.i64 0), AV.v (Go.Value.int IntKind.i64 0), AV.v (Go.Value.bool x16), AV.v (Go.Value.bool false)]]).length) <|
   k_ref29_watch_3v1 a0 a1 a2 x12 x16 x17 x19 x21 x23 x24 c25 m53 r57 r60 x21 x17)
  (brn r57.snd (k_ref29_watch_1008 a0 a1 a2 x19 r60.fst c25.Stamp x21 m53 x23 false x17 x24)
   (k_ref29_watch_1008v12 a0 a1 a2 x12 x16 x17 x19 x21 x23 x24 c25 m53 r60))) = some y) : k_ref29_watch_1029v1 a0 a1 a2 x12 x16 x17 x19 x21 x23 x24 c25 m53 r57 r60 = some y :=
  pt_of zT [8, 14, 15, 17, 19, 25, 26, 28, 29, 33] (by kernel_rfl) h

theorem t_ref29_watch_1033 (a0 : GSetup) (a1 : List GMarkEvent) (a2 : Int) (x0 : List (List AV)) (x2 : GStamp) (x3 : List (List AV)) (x5 : Bool) (x6 : Int) (c7 : GMarkEvent) (m48 : List (List AV)) (r52 : Bool × Bool) (r54 : GWatch × Int) (x59 : Int) (x63 : List (List AV)) {y : AV × Mem} (h : (
  k_ref29_watch_3 a0 a1 a2 x0 x2 x3 x5 x6 c7 m48 r52 r54 x63 (w64 (x59 + 1))) = some y) : k_ref29_watch_1033 a0 a1 a2 x0 x2 x3 x5 x6 c7 m48 r52 r54 x59 x63 = some y :=
  pt_of zT [8, 14, 15, 17, 19, 25, 26, 28, 29, 33] (by kernel_rfl) h

theorem t_ref29_watch_1008v11 (a0 : GSetup) (a1 : List GMarkEvent) (a2 : Int) (x0 : List (List AV)) (x2 : GStamp) (x3 : List (List AV)) (x5 : Bool) (x6 : Int) (c7 : GMarkEvent) (m48 : List (List AV)) (r52 : Bool × Bool) (r54 : GWatch × Int) (x58 : List (List AV)) (x59 : Int) {y : AV × Mem} (h : (
  k_ref29_watch_1 a0 a1 a2 (x0 ++ ([nGSuspension (⟨a2, ⟨x2.Time, x2.Source, x2.Seq⟩, ⟨c7.Stamp.Time, c7.Stamp.Source, c7.Stamp.Seq⟩, ⟨0, 0, 0⟩, x5, false⟩)])) r54.fst x2 x58 m48 x5 (w64 (x6 + 1))) = some y) : k_ref29_watch_1008v11 a0 a1 a2 x0 x2 x3 x5 x6 c7 m48 r52 r54 x58 x59 = some y :=
  pt_of zT [8, 14, 15, 17, 19, 25, 26, 28, 29, 33] (by kernel_rfl) h

theorem t_ref29_watch_3v1 (a0 : GSetup) (a1 : List GMarkEvent) (a2 : Int) (x12 : GStamp) (x16 : Bool) (x17 : Int) (x19 : List (List AV)) (x21 : List (List AV)) (x23 : Nat) (x24 : Int) (c25 : GMarkEvent) (m53 : List (List AV)) (r57 : Bool × Bool) (r60 : GWatch × Int) (x75 : List (List AV)) (x76 : Int) {y : AV × Mem} (h : (
  brn (decide (x76 ≤ x24)) (chk ((0 : Int) ≤ x76) <|
   chk ((x76 : Int) < ((↑(List.replicate (↑(List.map nGMarkEvent a1).length : Int).toNat (AV.v (Go.Value.bool false) :: List.map AV.v [])).length : Int))) <|
   elemD dBool x75 (0 + x76.toNat) fun (c77 : Bool) =>
   brn c77 (chk ((0 : Int) ≤ x76) <|
    chk ((x76 : Int) < ((↑(List.replicate (↑(List.map nGMarkEvent a1).length : Int).toNat (AV.v (Go.Value.bool false) :: List.map AV.v [])).length : Int))) <|
    elemD dBool x75 (0 + x76.toNat) fun (c78 : Bool) =>
    k_ref29_watch_1033v1 a0 a1 a2 x12 x16 x17 x19 x21 x23 x24 c25 m53 r57 r60 x76 (List.set x75 (0 + x76.toNat) (nBool true)))
   (chk ((0 : Int) ≤ x76) <|
    elemD dGMarkEvent (List.map nGMarkEvent a1) x76.toNat fun (c80 : GMarkEvent) =>
    brn (c80.Kind == 0) (chk ((0 : Int) ≤ x76) <|
     elemD dGMarkEvent (List.map nGMarkEvent a1) x76.toNat fun (c81 : GMarkEvent) =>
     brn (c81.Stamp.Source == a2) (brn x16 (brn ((↑(x19 ++ [[AV.v (Go.Value.int IntKind.i64 a2), AV.v (Go.Value.int IntKind.i64 x12.Time), AV.v (Go.Value.int IntKind.i64 x12.Source), AV.v (Go.Value.int IntKind.i64 x12.Seq), AV.v (Go.Value.int IntKind.i64 c25.Stamp.Time), AV.v (Go.Value.int IntKind.i64 c25.Stamp.Source), AV.v (Go.Value.int IntKind.i64 c25.Stamp.Seq), AV.v (Go.Value.int IntKind.i64 0), AV.v (Go.Value.int IntKind.i64 0), AV.v (Go.Value.int IntKind.i64 0), AV.v (Go.Value.bool x16), AV.v (Go.Value.bool false)]]).length : Int) == 1) (chk ((0 : Int) ≤ x76) <|
        chk ((x76 : Int) < ((↑(List.replicate (↑(List.map nGMarkEvent a1).length : Int).toNat (AV.v (Go.Value.bool false) :: List.map AV.v [])).length : Int))) <|
        elemD dBool x75 (0 + x76.toNat) fun (c82 : Bool) =>
        k_ref29_watch_1033v1 a0 a1 a2 x12 x16 x17 x19 x21 x23 x24 c25 m53 r57 r60 x76 (List.set x75 (0 + x76.toNat) (nBool true)))
       (chk ((0 : Int) ≤ x76) <|
        elemD dGMarkEvent (List.map nGMarkEvent a1) x76.toNat fun (c83 : GMarkEvent) =>
        callD r_ref28_Less (cw f_ref28_Less [AV.agg (nGStamp x12), AV.agg (nGStamp c83.Stamp)] []) fun (r84 : Bool) =>
        chk ((0 : Int) ≤ x76) <|
        chk ((x76 : Int) < ((↑(List.replicate (↑(List.map nGMarkEvent a1).length : Int).toNat (AV.v (Go.Value.bool false) :: List.map AV.v [])).length : Int))) <|
        elemD dBool x75 (0 + x76.toNat) fun (c85 : Bool) =>
        k_ref29_watch_1033v1 a0 a1 a2 x12 x16 x17 x19 x21 x23 x24 c25 m53 r57 r60 x76 (List.set x75 (0 + x76.toNat) (nBool r84))))
      (chk ((0 : Int) ≤ x76) <|
       elemD dGMarkEvent (List.map nGMarkEvent a1) x76.toNat fun (c86 : GMarkEvent) =>
       callD r_ref28_Less (cw f_ref28_Less [AV.agg (nGStamp x12), AV.agg (nGStamp c86.Stamp)] []) fun (r87 : Bool) =>
       chk ((0 : Int) ≤ x76) <|
       chk ((x76 : Int) < ((↑(List.replicate (↑(List.map nGMarkEvent a1).length : Int).toNat (AV.v (Go.Value.bool false) :: List.map AV.v [])).length : Int))) <|
       elemD dBool x75 (0 + x76.toNat) fun (c88 : Bool) =>
       k_ref29_watch_1033v1 a0 a1 a2 x12 x16 x17 x19 x21 x23 x24 c25 m53 r57 r60 x76 (List.set x75 (0 + x76.toNat) (nBool r87))))
     (chk ((0 : Int) ≤ x76) <|
      chk ((x76 : Int) < ((↑(List.replicate (↑(List.map nGMarkEvent a1).length : Int).toNat (AV.v (Go.Value.bool false) :: List.map AV.v [])).length : Int))) <|
      elemD dBool x75 (0 + x76.toNat) fun (c89 : Bool) =>
      k_ref29_watch_1033v1 a0 a1 a2 x12 x16 x17 x19 x21 x23 x24 c25 m53 r57 r60 x76 (List.set x75 (0 + x76.toNat) (nBool false))))
    (chk ((0 : Int) ≤ x76) <|
     chk ((x76 : Int) < ((↑(List.replicate (↑(List.map nGMarkEvent a1).length : Int).toNat (AV.v (Go.Value.bool false) :: List.map AV.v [])).length : Int))) <|
     elemD dBool x75 (0 + x76.toNat) fun (c90 : Bool) =>
     k_ref29_watch_1033v1 a0 a1 a2 x12 x16 x17 x19 x21 x23 x24 c25 m53 r57 r60 x76 (List.set x75 (0 + x76.toNat) (nBool false)))))
  (k_ref29_watch_1008v13 a0 a1 a2 x12 x16 x17 x19 x21 x23 x24 c25 m53 r57 r60 x75 x76)) = some y) : k_ref29_watch_3v1 a0 a1 a2 x12 x16 x17 x19 x21 x23 x24 c25 m53 r57 r60 x75 x76 = some y :=
  pt_of zT [8, 14, 15, 17, 19, 25, 26, 28, 29, 33] (by kernel_rfl) h

theorem t_ref29_watch_1008v12 (a0 : GSetup) (a1 : List GMarkEvent) (a2 : Int) (x12 : GStamp) (x16 : Bool) (x17 : Int) (x19 : List (List AV)) (x21 : List (List AV)) (x23 : Nat) (x24 : Int) (c25 : GMarkEvent) (m53 : List (List AV)) (r60 : GWatch × Int) {y : AV × Mem} (h : (
  k_ref29_watch_1v1 a0 a1 a2 x12 x16 x17 x19 r60.fst x21 m53 x23 (w64 (x24 + 1))) = some y) : k_ref29_watch_1008v12 a0 a1 a2 x12 x16 x17 x19 x21 x23 x24 c25 m53 r60 = some y :=
  pt_of zT [8, 14, 15, 17, 19, 25, 26, 28, 29, 33] (by kernel_rfl) h

theorem t_ref29_watch_1033v1 (a0 : GSetup) (a1 : List GMarkEvent) (a2 : Int) (x12 : GStamp) (x16 : Bool) (x17 : Int) (x19 : List (List AV)) (x21 : List (List AV)) (x23 : Nat) (x24 : Int) (c25 : GMarkEvent) (m53 : List (List AV)) (r57 : Bool × Bool) (r60 : GWatch × Int) (x76 : Int) (x79 : List (List AV)) {y : AV × Mem} (h : (
  k_ref29_watch_3v1 a0 a1 a2 x12 x16 x17 x19 x21 x23 x24 c25 m53 r57 r60 x79 (w64 (x76 + 1))) = some y) : k_ref29_watch_1033v1 a0 a1 a2 x12 x16 x17 x19 x21 x23 x24 c25 m53 r57 r60 x76 x79 = some y :=
  pt_of zT [8, 14, 15, 17, 19, 25, 26, 28, 29, 33] (by kernel_rfl) h

theorem t_ref29_watch_1008v13 (a0 : GSetup) (a1 : List GMarkEvent) (a2 : Int) (x12 : GStamp) (x16 : Bool) (x17 : Int) (x19 : List (List AV)) (x21 : List (List AV)) (x23 : Nat) (x24 : Int) (c25 : GMarkEvent) (m53 : List (List AV)) (r57 : Bool × Bool) (r60 : GWatch × Int) (x75 : List (List AV)) (x76 : Int) {y : AV × Mem} (h : (
  k_ref29_watch_1v1 a0 a1 a2 x12 x16 x17 (x19 ++ ([nGSuspension (⟨a2, ⟨x12.Time, x12.Source, x12.Seq⟩, ⟨c25.Stamp.Time, c25.Stamp.Source, c25.Stamp.Seq⟩, ⟨0, 0, 0⟩, x16, false⟩)])) r60.fst x75 m53 ((x19 ++ [[AV.v (Go.Value.int IntKind.i64 a2), AV.v (Go.Value.int IntKind.i64 x12.Time), AV.v (Go.Value.int IntKind.i64 x12.Source), AV.v (Go.Value.int IntKind.i64 x12.Seq), AV.v (Go.Value.int IntKind.i64 c25.Stamp.Time), AV.v (Go.Value.int IntKind.i64 c25.Stamp.Source), AV.v (Go.Value.int IntKind.i64 c25.Stamp.Seq), AV.v (Go.Value.int IntKind.i64 0), AV.v (Go.Value.int IntKind.i64 0), AV.v (Go.Value.int IntKind.i64 0), AV.v (Go.Value.bool x16), AV.v (Go.Value.bool false)]]).length) (w64 (x24 + 1))) = some y) : k_ref29_watch_1008v13 a0 a1 a2 x12 x16 x17 x19 x21 x23 x24 c25 m53 r57 r60 x75 x76 = some y :=
  pt_of zT [8, 14, 15, 17, 19, 25, 26, 28, 29, 33] (by kernel_rfl) h

theorem e_ref29_watch (a0 : GSetup) (a1 : List GMarkEvent) (a2 : Int) {y : AV × Mem} (h : (
  chk (((↑(List.map nGMarkEvent a1).length : Int) : Int) = ((↑(List.map nGMarkEvent a1).length : Int))) <|
  chk ((0 : Int) ≤ ((↑(List.map nGMarkEvent a1).length : Int))) <|
  chk ((↑(List.map nGMarkEvent a1).length : Int).toNat * (1 + 1) ≤ 1099511627776) <|
  k_ref29_watch_1 a0 a1 a2 [] (⟨[], false⟩) (⟨0, 0, 0⟩) (List.replicate ((↑(List.map nGMarkEvent a1).length : Int).toNat) (nBool false)) [] true 0) = some y) : cw f_ref29_watch [AV.agg (nGSetup a0), AV.sl 9 (List.map nGMarkEvent a1), I a2] [] = some y :=
  callw_tree R_ref29_watch zT [8, 14, 15, 17, 19, 25, 26, 28, 29, 33] rfl (by kernel_rfl) (by kernel_rfl) (by kernel_rfl) (by kernel_rfl) (by kernel_rfl) h

end Go.Proofs.YtdhibifcofaioaaGreat
