/- Annotations of the seat's functions: what lives behind each region, which slots own rows, which arguments are written; how results read. -/
import Derived.Test.YtkmdeoejdlcjeaaTy
import Derived.Test.YtkmdeoejdlcjeaaProg
namespace Go.Proofs.Ytkmdeoejdlcjeaa
open Go.Ab

abbrev ty_i64 : Nat := 2
abbrev ty_i64_2 : Nat := 3
abbrev ty_bool : Nat := 4
abbrev ty_u8 : Nat := 5
abbrev ty_abi_BoundsErrorCode : Nat := 6
abbrev ty_string : Nat := 9
abbrev ty_runtime_errorString : Nat := 10
abbrev ty_runtime_plainError : Nat := 11
abbrev ty_u64 : Nat := 12
abbrev ty_i32 : Nat := 21
abbrev ty_L_i64 : Nat := 22
abbrev ty_api_MarkRule : Nat := 28
abbrev ty_L_api_Given : Nat := 30
abbrev ty_api_Verdict : Nat := 33
abbrev ty_api_Stamp : Nat := 36
abbrev ty_api_Given : Nat := 38
abbrev ty_api_Errno : Nat := 41
abbrev ty_mark_Dice : Nat := 44
abbrev ty_u64_2 : Nat := 53
abbrev ty_u64_3 : Nat := 59
abbrev ty_u32 : Nat := 68
abbrev ty_abi_TFlag : Nat := 69
abbrev ty_abi_Kind : Nat := 70
abbrev ty_abi_NameOff : Nat := 73
abbrev ty_abi_TypeOff : Nat := 74
def f_law30_ArbitrationOrder : Nat := 3
def f_law30_ArbitrationBetween : Nat := 4
def f_law30_ArbitrationRises : Nat := 5
def f_mark_Light : Nat := 6
def f_law30_sane : Nat := 7
def f_mark_Roll : Nat := 8
def f_mark_Dice_Rule : Nat := 9
def f_law30_few : Nat := 10
def f_arbitration_Decide : Nat := 11
def f_arbitration_Check : Nat := 12
def f_mark_Dice_Bool : Nat := 13
def f_mark_Dice_Next : Nat := 14
def f_mark_Dice_Pick : Nat := 15
def f_arbitration_decisive : Nat := 16
def f_arbitration_worth : Nat := 17
def f_arbitration_mean : Nat := 18
def f_stamp_Compare : Nat := 19
def f_bits_Div64 : Nat := 21
def f_cmp_Or_int : Nat := 22
def f_cmp_Compare_int : Nat := 23
def f_bits_LeadingZeros64 : Nat := 24
def f_cmp_isNaN_int : Nat := 25
def f_bits_Len64 : Nat := 26
noncomputable def zC : Cfg := { wrt := atReg [(9, [0]), (10, [0]), (13, [0]), (14, [0]), (15, [0])] }
def a_law30_ArbitrationOrder : Ann := { lits := [], live := liveAt [(0, [0, 1]), (1, [0, 1, 14]), (2, [4]), (3, [1, 5]), (4, [1, 6, 7]), (5, [1, 6, 7, 8]), (6, [1, 6, 7, 8, 9]), (7, [1, 6, 7, 8, 9, 10]), (8, [1, 6, 7, 8, 9, 10, 29]), (9, [1, 6, 7, 8, 9, 10]), (10, [1, 6, 7, 8, 9, 10, 11]), (11, [1, 6, 7, 8, 9, 10, 11]), (12, [1, 6, 7, 8, 9, 10]), (13, [4])], own := atReg [(6, [(9, 8, 38)]), (12, [(9, 8, 38)])] }
def a_law30_ArbitrationBetween : Ann := { lits := [], live := liveAt [(0, [0]), (1, [0, 17]), (2, [2]), (3, [3]), (4, [4, 5]), (5, [4, 5, 6]), (6, [4, 5, 6, 7, 8, 9]), (7, [4, 5, 6, 7, 8, 9, 28, 29, 30]), (8, [4, 5, 6, 7, 8, 9, 28, 29, 30, 31]), (9, [4, 5, 6, 7, 8, 9, 11, 28, 29, 30]), (10, [4, 5, 6, 7, 8, 9, 28, 29, 30]), (11, [4, 5, 6, 7, 8, 9, 28, 29, 30]), (12, [4, 5, 6, 7, 8, 9, 51]), (13, [2]), (14, [4, 5, 6, 7, 8, 9, 88]), (15, [2]), (16, [4, 5, 6, 7, 8, 9, 90]), (17, [4, 5, 6, 9, 12]), (18, [4, 6, 9, 12, 91, 92, 93]), (19, [4, 6, 9, 12, 91, 92, 93, 94]), (20, [4, 6, 9, 12, 14, 91, 92, 93]), (21, [4, 6, 9, 12, 14, 91, 92, 93, 100]), (22, [4, 6, 9, 12, 91, 92, 93]), (23, [4, 6, 9, 12, 91, 92, 93]), (24, [2]), (25, [2])], own := atReg [(17, [(12, 8, 38)]), (22, [(12, 8, 38)])] }
def a_law30_ArbitrationRises : Ann := { lits := [], live := liveAt [(0, [0, 1, 2]), (1, [0, 1, 2, 15]), (2, [6]), (3, [1, 2, 7]), (4, [1, 2, 8, 9]), (5, [1, 2, 8, 9, 25]), (6, [6]), (7, [1, 2, 8, 9, 10]), (8, [8, 9, 10]), (9, [11, 12]), (10, [6])], own := atReg [(7, [(10, 8, 38)])] }
def a_mark_Light : Ann := { lits := [], live := liveAt [(0, [0]), (1, [2])], own := atReg [] }
def a_law30_sane : Ann := { lits := [], live := liveAt [(0, []), (1, [1]), (2, [1, 2]), (3, [1, 2, 3]), (4, [1, 2, 3, 4]), (5, [1, 2, 3, 4, 5]), (6, [0])], own := atReg [] }
def a_mark_Roll : Ann := { lits := [], live := liveAt [(0, [0]), (1, [2])], own := atReg [] }
def a_mark_Dice_Rule : Ann := { lits := [], live := liveAt [(0, [0, 2]), (1, [2])], own := atReg [] }
def a_law30_few : Ann := { lits := [], live := liveAt [(0, [0]), (1, [0, 3]), (2, [0, 3, 4]), (3, [0, 3, 4, 8]), (4, [0, 3, 4]), (5, [0, 3, 4]), (6, [2])], own := atReg [(1, [(3, 8, 38)]), (5, [(3, 8, 38)])] }
def a_arbitration_Decide : Ann := { lits := [], live := liveAt [(0, [1, 2, 4]), (1, [1, 2, 4, 5, 6]), (2, [1, 2, 4, 5, 16]), (3, [4]), (4, [1, 2, 4, 22]), (5, [4]), (6, [1, 2, 4, 26]), (7, [1, 4, 28]), (8, [4]), (9, [4]), (10, [1, 2, 4, 7, 8]), (11, [1, 2, 4, 7, 8, 43, 44, 45]), (12, [1, 2, 4, 7, 8, 43, 44, 45, 46]), (13, [1, 2, 4, 7, 8, 10, 43, 44, 45]), (14, [1, 2, 4, 7, 8, 43, 44, 45]), (15, [1, 2, 4, 7, 8, 43, 44, 45]), (16, [1, 4, 63]), (17, [4]), (18, [4])], own := atReg [] }
def a_arbitration_Check : Ann := { lits := [], live := liveAt [(0, [1]), (1, [10]), (2, [2]), (3, [2])], own := atReg [] }
def a_mark_Dice_Bool : Ann := { lits := [], live := liveAt [(0, [0, 1]), (1, [4])], own := atReg [] }
def a_mark_Dice_Next : Ann := { lits := [], live := liveAt [(0, [0, 1]), (1, [0, 1, 19]), (2, [4]), (3, [0, 1, 5]), (4, [1, 5]), (5, [1, 5, 40]), (6, [5]), (7, [4])], own := atReg [] }
def a_mark_Dice_Pick : Ann := { lits := [], live := liveAt [(0, [0, 1]), (1, [4])], own := atReg [] }
def a_arbitration_decisive : Ann := { lits := [], live := liveAt [(0, [0, 2]), (1, [0, 2, 4]), (2, [0, 2, 4, 5]), (3, [2, 4, 5, 8, 9, 10]), (4, [2, 4, 5, 8, 9, 10, 11]), (5, [2, 4, 5, 7, 8, 9, 10]), (6, [2, 4, 5, 7, 8, 9, 10, 16]), (7, [2, 4, 5, 7, 8, 9, 10, 40]), (8, [2, 4, 5, 8, 9, 10]), (9, [2, 4, 5, 8, 9, 10]), (10, [2, 3])], own := atReg [] }
def a_arbitration_worth : Ann := { lits := [], live := liveAt [(0, [1]), (1, [2])], own := atReg [] }
def a_arbitration_mean : Ann := { lits := [], live := liveAt [(0, [0]), (1, [0, 3, 4]), (2, [0, 3, 4, 11, 12, 13]), (3, [0, 3, 4, 11, 12, 13, 14]), (4, [0, 3, 4, 6, 11, 12, 13]), (5, [0, 3, 4, 6, 11, 12, 13]), (6, [0, 3, 4, 7, 11, 12, 13]), (7, [0, 3, 4, 11, 12, 13]), (8, [0, 3, 4, 11, 12, 13]), (9, [3, 4, 8]), (10, [8, 9, 10]), (11, [9, 42]), (12, [9]), (13, [2])], own := atReg [] }
def a_stamp_Compare : Ann := { lits := [], live := liveAt [(0, [2, 3]), (1, [4])], own := atReg [] }
def a_bits_Div64 : Ann := { lits := [], live := liveAt [(0, [0, 1, 2]), (1, [0, 1, 2, 20]), (2, [0, 1, 2]), (3, [0, 1, 2, 24]), (4, [0, 1, 2]), (5, [0, 1, 2, 27]), (6, [6, 7]), (7, [0, 1, 2, 8]), (8, [0, 1, 2, 8]), (9, [0, 1, 2, 8, 9]), (10, [0, 1, 2, 8, 9, 10]), (11, [1, 2, 8, 9, 10, 11]), (12, [2, 8, 9, 10, 11, 12]), (13, [2, 8, 9, 10, 11, 12, 13]), (14, [2, 8, 9, 10, 11, 13, 14]), (15, [2, 8, 9, 10, 11, 13, 14, 15]), (16, [2, 8, 9, 10, 11, 13, 14, 15, 16]), (17, [2, 8, 9, 10, 11, 13, 14, 15, 16, 78]), (18, [2, 8, 9, 10, 11, 13, 14, 15, 16]), (19, [2, 8, 9, 10, 11, 13, 14, 15, 16]), (20, [2, 8, 9, 10, 11, 13, 14, 15, 16, 85]), (21, [2, 8, 9, 10, 14, 15, 17]), (22, [2, 8, 9, 10, 14, 15, 17, 18]), (23, [2, 8, 9, 10, 14, 15, 16, 17, 18]), (24, [2, 8, 9, 10, 14, 15, 16, 17, 18, 113]), (25, [2, 8, 9, 10, 14, 15, 16, 17, 18]), (26, [2, 8, 9, 10, 14, 15, 16, 17, 18]), (27, [2, 8, 9, 10, 14, 15, 16, 17, 18, 120]), (28, [6, 7])], own := atReg [] }
def a_cmp_Or_int : Ann := { lits := [], live := liveAt [(0, [0]), (1, [0, 3]), (2, [3, 6, 7, 8]), (3, [3, 6, 7, 8, 9]), (4, [3, 5, 6, 7, 8]), (5, [3, 5, 6, 7, 8, 14]), (6, [2]), (7, [3, 6, 7, 8]), (8, [2])], own := atReg [] }
def a_cmp_Compare_int : Ann := { lits := [], live := liveAt [(0, [0, 1]), (1, [0, 1, 5]), (2, [0, 1, 5, 6]), (3, [0, 1, 6, 11]), (4, [12]), (5, [4]), (6, [4]), (7, [0, 1, 13]), (8, [4]), (9, [0, 1, 16]), (10, [4]), (11, [19]), (12, [4]), (13, [4])], own := atReg [] }
def a_bits_LeadingZeros64 : Ann := { lits := [], live := liveAt [(0, [0]), (1, [2])], own := atReg [] }
def a_cmp_isNaN_int : Ann := { lits := [], live := liveAt [(0, [0]), (1, [2])], own := atReg [] }
def a_bits_Len64 : Ann := { lits := [], live := liveAt [(0, [0, 2]), (1, [0, 2, 4]), (2, [0]), (3, [0, 2]), (4, [0, 2, 8]), (5, [0, 2]), (6, [0, 2]), (7, [0, 2, 14]), (8, [0, 2]), (9, [0, 2]), (10, [2])], own := atReg [] }
def annTab : List Ann := [{ lits := [], live := fun _ => none, own := fun _ => [] }, { lits := [], live := fun _ => none, own := fun _ => [] }, { lits := [], live := fun _ => none, own := fun _ => [] }, a_law30_ArbitrationOrder, a_law30_ArbitrationBetween, a_law30_ArbitrationRises, a_mark_Light, a_law30_sane, a_mark_Roll, a_mark_Dice_Rule, a_law30_few, a_arbitration_Decide, a_arbitration_Check, a_mark_Dice_Bool, a_mark_Dice_Next, a_mark_Dice_Pick, a_arbitration_decisive, a_arbitration_worth, a_arbitration_mean, a_stamp_Compare, { lits := [], live := fun _ => none, own := fun _ => [] }, a_bits_Div64, a_cmp_Or_int, a_cmp_Compare_int, a_bits_LeadingZeros64, a_cmp_isNaN_int, a_bits_Len64, { lits := [], live := fun _ => none, own := fun _ => [] }, { lits := [], live := fun _ => none, own := fun _ => [] }, { lits := [], live := fun _ => none, own := fun _ => [] }, { lits := [], live := fun _ => none, own := fun _ => [] }, { lits := [], live := fun _ => none, own := fun _ => [] }, { lits := [], live := fun _ => none, own := fun _ => [] }, { lits := [], live := fun _ => none, own := fun _ => [] }, { lits := [], live := fun _ => none, own := fun _ => [] }, { lits := [], live := fun _ => none, own := fun _ => [] }, { lits := [], live := fun _ => none, own := fun _ => [] }, { lits := [], live := fun _ => none, own := fun _ => [] }, { lits := [], live := fun _ => none, own := fun _ => [] }, { lits := [], live := fun _ => none, own := fun _ => [] }, { lits := [], live := fun _ => none, own := fun _ => [] }, { lits := [], live := fun _ => none, own := fun _ => [] }, { lits := [], live := fun _ => none, own := fun _ => [] }]
def zA : AnnF := fun f => annTab.getD f { lits := [], live := fun _ => none, own := fun _ => [] }
noncomputable abbrev r_law30_ArbitrationOrder : RD := r1 vBool
noncomputable abbrev r_law30_ArbitrationBetween : RD := r1 vBool
noncomputable abbrev r_law30_ArbitrationRises : RD := r1 vBool
noncomputable abbrev r_mark_Light : RD := r1 vBool
noncomputable abbrev r_law30_sane : RD := r1 vBool
noncomputable abbrev r_mark_Roll : RD := r1 (vNewp 2 ty_mark_Dice dGmarkDice)
noncomputable abbrev r_mark_Dice_Rule : RD := r1M (vAgg dGMarkRule) (mBox 1000 2 ty_mark_Dice dGmarkDice)
noncomputable abbrev r_law30_few : RD := r1M (vNew 8 ty_api_Given dGGiven) (mBox 1000 2 ty_mark_Dice dGmarkDice)
noncomputable abbrev r_arbitration_Decide : RD := r1 (vAgg dGVerdict)
noncomputable abbrev r_arbitration_Check : RD := r1 (vI .i64)
noncomputable abbrev r_mark_Dice_Bool : RD := r1M vBool (mBox 1000 2 ty_mark_Dice dGmarkDice)
noncomputable abbrev r_mark_Dice_Next : RD := r1M (vI .i64) (mBox 1000 2 ty_mark_Dice dGmarkDice)
noncomputable abbrev r_mark_Dice_Pick : RD := r1M (vI .i64) (mBox 1000 2 ty_mark_Dice dGmarkDice)
noncomputable abbrev r_arbitration_decisive : RD := rT (lCons (vAgg dGGiven) (lOne vBool))
noncomputable abbrev r_arbitration_worth : RD := r1 (vI .i64)
noncomputable abbrev r_arbitration_mean : RD := r1 (vI .i64)
noncomputable abbrev r_stamp_Compare : RD := r1 (vI .i64)
noncomputable abbrev r_bits_Div64 : RD := rT (lCons (vI .u64) (lOne (vI .u64)))
noncomputable abbrev r_cmp_Or_int : RD := r1 (vI .i64)
noncomputable abbrev r_cmp_Compare_int : RD := r1 (vI .i64)
noncomputable abbrev r_bits_LeadingZeros64 : RD := r1 (vI .i64)
noncomputable abbrev r_cmp_isNaN_int : RD := r1 vBool
noncomputable abbrev r_bits_Len64 : RD := r1 (vI .i64)
noncomputable def resTab : List RD := [rRaw, rRaw, rRaw, r_law30_ArbitrationOrder, r_law30_ArbitrationBetween, r_law30_ArbitrationRises, r_mark_Light, r_law30_sane, r_mark_Roll, r_mark_Dice_Rule, r_law30_few, r_arbitration_Decide, r_arbitration_Check, r_mark_Dice_Bool, r_mark_Dice_Next, r_mark_Dice_Pick, r_arbitration_decisive, r_arbitration_worth, r_arbitration_mean, r_stamp_Compare, rRaw, r_bits_Div64, r_cmp_Or_int, r_cmp_Compare_int, r_bits_LeadingZeros64, r_cmp_isNaN_int, r_bits_Len64, rRaw, rRaw, rRaw, rRaw, rRaw, rRaw, rRaw, rRaw, rRaw, rRaw, rRaw, rRaw, rRaw, rRaw, rRaw, rRaw]
noncomputable def zT : Dic := Dic.of tyTab resTab
noncomputable abbrev R_law30_ArbitrationOrder : Fr := ⟨Try.prog, zC, zA, 3, Try.f3, []⟩
noncomputable abbrev R_law30_ArbitrationBetween : Fr := ⟨Try.prog, zC, zA, 4, Try.f4, []⟩
noncomputable abbrev R_law30_ArbitrationRises : Fr := ⟨Try.prog, zC, zA, 5, Try.f5, []⟩
noncomputable abbrev R_mark_Light : Fr := ⟨Try.prog, zC, zA, 6, Try.f6, []⟩
noncomputable abbrev R_law30_sane : Fr := ⟨Try.prog, zC, zA, 7, Try.f7, []⟩
noncomputable abbrev R_mark_Roll : Fr := ⟨Try.prog, zC, zA, 8, Try.f8, []⟩
noncomputable abbrev R_mark_Dice_Rule : Fr := ⟨Try.prog, zC, zA, 9, Try.f9, [(1000, ⟨0, 0, [], false⟩)]⟩
noncomputable abbrev R_law30_few : Fr := ⟨Try.prog, zC, zA, 10, Try.f10, [(1000, ⟨0, 0, [], false⟩)]⟩
noncomputable abbrev R_arbitration_Decide : Fr := ⟨Try.prog, zC, zA, 11, Try.f11, []⟩
noncomputable abbrev R_arbitration_Check : Fr := ⟨Try.prog, zC, zA, 12, Try.f12, []⟩
noncomputable abbrev R_mark_Dice_Bool : Fr := ⟨Try.prog, zC, zA, 13, Try.f13, [(1000, ⟨0, 0, [], false⟩)]⟩
noncomputable abbrev R_mark_Dice_Next : Fr := ⟨Try.prog, zC, zA, 14, Try.f14, [(1000, ⟨0, 0, [], false⟩)]⟩
noncomputable abbrev R_mark_Dice_Pick : Fr := ⟨Try.prog, zC, zA, 15, Try.f15, [(1000, ⟨0, 0, [], false⟩)]⟩
noncomputable abbrev R_arbitration_decisive : Fr := ⟨Try.prog, zC, zA, 16, Try.f16, []⟩
noncomputable abbrev R_arbitration_worth : Fr := ⟨Try.prog, zC, zA, 17, Try.f17, []⟩
noncomputable abbrev R_arbitration_mean : Fr := ⟨Try.prog, zC, zA, 18, Try.f18, []⟩
noncomputable abbrev R_stamp_Compare : Fr := ⟨Try.prog, zC, zA, 19, Try.f19, []⟩
noncomputable abbrev R_bits_Div64 : Fr := ⟨Try.prog, zC, zA, 21, Try.f21, []⟩
noncomputable abbrev R_cmp_Or_int : Fr := ⟨Try.prog, zC, zA, 22, Try.f22, []⟩
noncomputable abbrev R_cmp_Compare_int : Fr := ⟨Try.prog, zC, zA, 23, Try.f23, []⟩
noncomputable abbrev R_bits_LeadingZeros64 : Fr := ⟨Try.prog, zC, zA, 24, Try.f24, []⟩
noncomputable abbrev R_cmp_isNaN_int : Fr := ⟨Try.prog, zC, zA, 25, Try.f25, []⟩
noncomputable abbrev R_bits_Len64 : Fr := ⟨Try.prog, zC, zA, 26, Try.f26, []⟩
noncomputable abbrev cw : Calling := callw Try.prog zC zA
end Go.Proofs.Ytkmdeoejdlcjeaa
