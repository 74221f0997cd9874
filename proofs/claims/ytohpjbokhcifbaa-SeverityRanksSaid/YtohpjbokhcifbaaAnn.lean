/- Annotations of the seat's functions: what lives behind each region, which slots own rows, which arguments are written; how results read. -/
import Derived.Test.YtohpjbokhcifbaaTy
import Derived.Test.YtohpjbokhcifbaaProg
namespace Go.Proofs.Ytohpjbokhcifbaa
open Go.Ab

abbrev ty_i64 : Nat := 2
abbrev ty_i64_2 : Nat := 3
abbrev ty_bool : Nat := 4
abbrev ty_u8 : Nat := 5
abbrev ty_abi_BoundsErrorCode : Nat := 6
abbrev ty_string : Nat := 9
abbrev ty_runtime_errorString : Nat := 10
abbrev ty_runtime_plainError : Nat := 11
abbrev ty_u64 : Nat := 12
abbrev ty_i32 : Nat := 21
abbrev ty_L_i64 : Nat := 22
abbrev ty_L_api_Judged : Nat := 25
abbrev ty_api_Ratio : Nat := 30
abbrev ty_api_Judged : Nat := 32
abbrev ty_M_i64_bool : Nat := 37
abbrev ty_L_u8 : Nat := 39
abbrev ty_mark_Dice : Nat := 44
abbrev ty_A100_api_Ratio : Nat := 48
abbrev ty_A41_i64 : Nat := 53
abbrev ty_api_Errno : Nat := 55
abbrev ty_u64_2 : Nat := 59
abbrev ty_ref01_Wide : Nat := 61
abbrev ty_u64_3 : Nat := 70
abbrev ty_ratio_wide : Nat := 72
abbrev ty_ratio_signed : Nat := 74
abbrev ty_slices_sortedHint : Nat := 84
abbrev ty_u32 : Nat := 92
abbrev ty_slices_xorshift : Nat := 103
abbrev ty_A0_P_runtime_PanicNilError : Nat := 121
abbrev ty_abi_TFlag : Nat := 125
abbrev ty_abi_Kind : Nat := 126
abbrev ty_abi_NameOff : Nat := 129
abbrev ty_abi_TypeOff : Nat := 130
def f_law31_SeverityBounds : Nat := 3
def f_law31_SeverityRanks : Nat := 4
def f_law31_SeverityKappa : Nat := 5
def f_mark_Light : Nat := 6
def f_law31_sane : Nat := 7
def f_law31_pairs : Nat := 8
def f_mark_Roll : Nat := 9
def f_severity_Bias : Nat := 10
def f_severity_Spread : Nat := 11
def f_severity_Agreement : Nat := 12
def f_ref01_Less : Nat := 13
def f_severity_Rank : Nat := 14
def f_law31_same : Nat := 15
def f_severity_Kappa : Nat := 16
def f_mark_Dice_Next : Nat := 17
def f_severity_mean : Nat := 18
def f_severity_Bias_1 : Nat := 19
def f_severity_Spread_1 : Nat := 20
def f_severity_Agreement_1 : Nat := 21
def f_ref01_Compare : Nat := 22
def f_severity_right : Nat := 23
def f_slices_SortFunc_int_int : Nat := 24
def f_severity_Rank_1 : Nat := 25
def f_cmp_Or_int : Nat := 26
def f_ratio_Compare : Nat := 27
def f_cmp_Compare_int : Nat := 28
def f_severity_zero : Nat := 29
def f_severity_isMark : Nat := 30
def f_ratio_New : Nat := 31
def f_ref01_Valid : Nat := 32
def f_ref01_total : Nat := 33
def f_ref01_Product : Nat := 34
def f_ref01_Size : Nat := 35
def f_slices_ContainsFunc_api_Judged_api_Judged : Nat := 36
def f_severity_right_1 : Nat := 37
def f_slices_pdqsortCmpFunc_int : Nat := 38
def f_bits_Len : Nat := 39
def f_ratio_Valid : Nat := 40
def f_ratio_signedProduct : Nat := 41
def f_ratio_wide_compare : Nat := 42
def f_cmp_isNaN_int : Nat := 43
def f_ratio_reduced : Nat := 44
def f_ratio_magnitude : Nat := 45
def f_ref01_Divisor : Nat := 46
def f_ref01_Plus : Nat := 47
def f_ref01_Order : Nat := 48
def f_ref01_Minus : Nat := 49
def f_bits_Mul64 : Nat := 50
def f_slices_IndexFunc_api_Judged_api_Judged : Nat := 51
def f_slices_insertionSortCmpFunc_int : Nat := 52
def f_slices_heapSortCmpFunc_int : Nat := 53
def f_slices_breakPatternsCmpFunc_int : Nat := 54
def f_slices_choosePivotCmpFunc_int : Nat := 55
def f_slices_reverseRangeCmpFunc_int : Nat := 56
def f_slices_partialInsertionSortCmpFunc_int : Nat := 57
def f_slices_partitionEqualCmpFunc_int : Nat := 58
def f_slices_partitionCmpFunc_int : Nat := 59
def f_bits_Len32 : Nat := 60
def f_bits_Len64 : Nat := 61
def f_ratio_gcd : Nat := 62
def f_ratio_product : Nat := 63
def f_cmp_Compare_uint64 : Nat := 64
def f_ratio_wide_mod : Nat := 65
def f_ratio_fitted : Nat := 66
def f_ratio_wide_over : Nat := 67
def f_ref01_Divide : Nat := 68
def f_slices_siftDownCmpFunc_int : Nat := 71
def f_slices_nextPowerOfTwo : Nat := 72
def f_slices_xorshift_Next : Nat := 73
def f_slices_medianAdjacentCmpFunc_int : Nat := 74
def f_slices_medianCmpFunc_int : Nat := 75
def f_cmp_isNaN_uint64 : Nat := 76
def f_bits_Rem64 : Nat := 77
def f_bits_Div64 : Nat := 78
def f_ref01_Twice : Nat := 79
def f_slices_order2CmpFunc_int : Nat := 80
def f_bits_LeadingZeros64 : Nat := 81
noncomputable def zC : Cfg := { wrt := atReg [(8, [0]), (17, [0]), (24, [0]), (38, [0]), (52, [0]), (53, [0]), (54, [0]), (56, [0]), (57, [0]), (58, [0]), (59, [0]), (71, [0]), (73, [0]), (74, [2]), (75, [4]), (80, [3])] }
def a_law31_SeverityBounds : Ann := { lits := [], live := liveAt [(0, [0]), (1, [0, 23]), (2, [2]), (3, [3]), (4, [3, 4, 5]), (5, [3, 4, 5, 6]), (6, [3, 4, 5, 6, 30, 31, 32]), (7, [3, 4, 5, 6, 30, 31, 32, 33]), (8, [3, 4, 5, 6, 8, 30, 31, 32]), (9, [3, 4, 5, 6, 8, 30, 31, 32]), (10, [3, 4, 5, 6, 30, 31, 32]), (11, [3, 4, 5, 6, 30, 31, 32]), (12, [3, 4, 5, 9, 10]), (13, [3, 4, 5, 9, 10, 51]), (14, [2]), (15, [3, 4, 5, 9, 10, 11, 12]), (16, [3, 4, 5, 9, 10, 11, 12, 13]), (17, [3, 4, 5, 9, 10, 11, 12, 13, 53]), (18, [3, 4, 5, 9, 10, 11, 12, 13]), (19, [3, 4, 5, 9, 10, 11, 12, 13, 14, 15]), (20, [3, 4, 5, 9, 10, 11, 12, 13, 14, 15, 16, 17]), (21, [3, 4, 5, 9, 10, 11, 12, 13, 14, 15, 16, 17, 18, 19]), (22, [3, 4, 5, 9, 10, 11, 12, 13, 14, 15, 16, 18, 81]), (23, [2]), (24, [3, 4, 5, 9, 10, 11, 12, 13, 14, 16, 18, 83]), (25, [3, 4, 5, 9, 10, 11, 12, 13, 14, 16, 18, 20]), (26, [3, 4, 5, 9, 10, 11, 12, 13, 14, 16, 18, 20, 87]), (27, [3, 4, 5, 9, 10, 11, 12, 13, 14, 16, 18, 20]), (28, [3, 4, 5, 9, 10, 11, 12, 13, 14, 113]), (29, [2]), (30, [3, 4, 5, 9, 10, 11, 12, 13]), (31, [2])], own := atReg [(5, [(6, 3, 32)]), (10, [(6, 3, 32)])] }
def a_law31_SeverityRanks : Ann := { lits := [], live := liveAt [(0, [0]), (1, [0, 17]), (2, [2]), (3, [3]), (4, [3, 4]), (5, [3, 4, 5]), (6, [3, 4, 5, 26]), (7, [3, 4, 5]), (8, [3, 4, 5]), (9, [3, 4, 6]), (10, [3, 4, 6, 7]), (11, [3, 4, 6, 7, 8]), (12, [3, 4, 6, 7, 8, 40, 41, 42]), (13, [3, 4, 6, 7, 8, 40, 41, 42, 43]), (14, [3, 4, 6, 7, 8, 9, 10, 40, 41, 42]), (15, [3, 4, 6, 7, 8, 9, 10, 11, 12, 40, 41, 42]), (16, [3, 4, 6, 7, 8, 9, 10, 11, 12, 40, 41, 42, 55]), (17, [3, 4, 6, 7, 8, 9, 10, 11, 12, 40, 41, 42]), (18, [3, 4, 6, 7, 8, 10, 11, 40, 41, 42, 89]), (19, [2]), (20, [3, 4, 6, 7, 8, 40, 41, 42]), (21, [3, 4, 6, 7, 8, 40, 41, 42]), (22, [4, 6, 7, 94, 95, 96]), (23, [4, 6, 7, 94, 95, 96, 97]), (24, [4, 6, 7, 14, 94, 95, 96]), (25, [4, 6, 7, 94, 95, 96, 104]), (26, [2]), (27, [4, 6, 7, 94, 95, 96]), (28, [2])], own := atReg [(4, [(4, 3, 32)]), (8, [(4, 3, 32)])] }
def a_law31_SeverityKappa : Ann := { lits := [], live := liveAt [(0, [0, 1, 2]), (1, [0, 1, 2, 28]), (2, [6]), (3, [0, 1, 2, 7, 8, 9, 10]), (4, [0, 1, 2, 7, 8, 9, 10, 31, 32]), (5, [0, 1, 2, 7, 8, 9, 10, 31, 32, 33]), (6, [0, 1, 2, 7, 8, 9, 10, 11, 31, 32]), (7, [0, 1, 2, 7, 8, 9, 10, 11, 31, 32]), (8, [0, 1, 2, 7, 8, 9, 10, 31, 32]), (9, [0, 1, 2, 7, 8, 9, 10, 31, 32]), (10, [7, 8, 9, 10, 12, 13]), (11, [7, 8, 9, 10, 12, 13, 14, 15]), (12, [7, 8, 12, 13, 14, 15, 16, 17]), (13, [7, 8, 12, 13, 14, 15, 16, 17, 18]), (14, [6])], own := atReg [(3, [(7, 1, 3), (8, 1, 3), (9, 1, 3), (10, 1, 3)]), (7, [(7, 1, 3), (8, 1, 3)]), (8, [(9, 1, 3), (10, 1, 3)])] }
def a_mark_Light : Ann := { lits := [], live := liveAt [(0, [0]), (1, [2])], own := atReg [] }
def a_law31_sane : Ann := { lits := [], live := liveAt [(0, []), (1, [1]), (2, [1, 2, 3]), (3, [1, 2, 3, 4, 5]), (4, [1, 2, 3, 4, 5, 6, 7]), (5, [1, 2, 3, 4, 5, 6, 7, 8, 9]), (6, [1, 2, 3, 4, 5, 6, 7, 8, 9, 10]), (7, [0])], own := atReg [] }
def a_law31_pairs : Ann := { lits := [], live := liveAt [(0, [0, 1]), (1, [0, 1, 5]), (2, [0, 5, 6]), (3, [0, 5, 6, 12]), (4, [0, 5, 6]), (5, [0, 5, 6]), (6, [4])], own := atReg [(1, [(5, 3, 32)]), (5, [(5, 3, 32)])] }
def a_mark_Roll : Ann := { lits := [], live := liveAt [(0, [0]), (1, [2])], own := atReg [] }
def a_severity_Bias : Ann := { lits := [], live := liveAt [(0, [0, 1, 4]), (1, [4, 5])], own := atReg [] }
def a_severity_Spread : Ann := { lits := [], live := liveAt [(0, [0, 1, 4]), (1, [4, 5])], own := atReg [] }
def a_severity_Agreement : Ann := { lits := [], live := liveAt [(0, [0, 1, 4]), (1, [4, 5])], own := atReg [] }
def a_ref01_Less : Ann := { lits := [], live := liveAt [(0, [2, 3]), (1, [4])], own := atReg [] }
def a_severity_Rank : Ann := { lits := [4], live := liveAt [(0, [0]), (1, [0, 11]), (2, [2]), (3, [0, 3]), (4, [0, 3, 4]), (5, [0, 3, 4, 12, 13, 14]), (6, [0, 3, 4, 12, 13, 14, 15]), (7, [0, 3, 4, 6, 12, 13, 14]), (8, [0, 3, 4, 6, 12, 13, 14, 23]), (9, [0, 3, 4, 6, 7, 12, 13, 14]), (10, [0, 3, 4, 6, 7, 12, 13, 14]), (11, [0, 3, 4, 6, 12, 13, 14]), (12, [0, 3, 4, 12, 13, 14]), (13, [0, 3, 4, 12, 13, 14]), (14, [3]), (15, [2])], own := atReg [(3, [(3, 1, 3)]), (12, [(3, 1, 3)])] }
def a_law31_same : Ann := { lits := [], live := liveAt [(0, [0, 1]), (1, [0, 1, 10]), (2, [4]), (3, [0, 1, 12, 13]), (4, [0, 1, 12, 13, 14]), (5, [0, 1, 5, 12, 13]), (6, [0, 1, 12, 13, 24]), (7, [4]), (8, [0, 1, 12, 13]), (9, [4])], own := atReg [] }
def a_severity_Kappa : Ann := { lits := [7, 8], live := liveAt [(0, [0, 1, 4]), (1, [0, 1, 4, 6]), (2, [0, 1, 4, 6, 28]), (3, [4, 5]), (4, [0, 1, 4, 6, 7, 8]), (5, [0, 1, 4, 6, 7, 8, 9]), (6, [0, 1, 4, 6, 7, 8, 9, 31, 32]), (7, [0, 1, 4, 6, 7, 8, 9, 31, 32, 33]), (8, [0, 1, 4, 6, 7, 8, 9, 10, 31, 32]), (9, [0, 1, 4, 6, 7, 8, 9, 10, 31, 32, 48]), (10, [4, 5]), (11, [0, 1, 4, 6, 7, 8, 9, 10, 31, 32]), (12, [0, 1, 4, 6, 7, 8, 9, 10, 31, 32]), (13, [0, 1, 4, 6, 7, 8, 9, 31, 32, 74]), (14, [0, 1, 4, 6, 7, 8, 9, 31, 32]), (15, [0, 1, 4, 6, 7, 8, 9, 31, 32]), (16, [4, 6, 7, 8, 9, 11]), (17, [4, 6, 7, 8, 9, 11, 78]), (18, [4, 6, 7, 8, 9, 11, 78, 79]), (19, [4, 6, 7, 8, 9, 11, 12, 78]), (20, [4, 6, 7, 8, 9, 11, 78]), (21, [4, 6, 7, 8, 9, 11, 78]), (22, [4, 6, 9, 11, 95]), (23, [4, 5]), (24, [4, 13, 14]), (25, [4, 13, 112]), (26, [4, 5]), (27, [4, 5])], own := atReg [] }
def a_mark_Dice_Next : Ann := { lits := [], live := liveAt [(0, [0, 1]), (1, [0, 1, 19]), (2, [4]), (3, [0, 1, 5]), (4, [1, 5]), (5, [1, 5, 40]), (6, [5]), (7, [4])], own := atReg [] }
def a_severity_mean : Ann := { lits := [], live := liveAt [(0, [0, 1, 2, 6]), (1, [0, 1, 2, 6, 16]), (2, [6, 7]), (3, [0, 1, 2, 6, 8, 9]), (4, [1, 2, 6, 8, 9, 18, 19, 20]), (5, [1, 2, 6, 8, 9, 18, 19, 20, 21]), (6, [1, 2, 6, 8, 9, 11, 18, 19, 20]), (7, [1, 2, 6, 8, 9, 11, 18, 19, 20, 27]), (8, [1, 2, 6, 8, 9, 18, 19, 20]), (9, [1, 2, 6, 8, 9, 18, 19, 20]), (10, [1, 2, 6, 8, 9, 18, 19, 20]), (11, [6, 8, 9, 41]), (12, [6, 7]), (13, [6, 12, 13]), (14, [6, 12, 50]), (15, [6, 7]), (16, [6, 7])], own := atReg [] }
def a_severity_Bias_1 : Ann := { lits := [], live := liveAt [(0, [0]), (1, [2])], own := atReg [] }
def a_severity_Spread_1 : Ann := { lits := [], live := liveAt [(0, [0]), (1, [2])], own := atReg [] }
def a_severity_Agreement_1 : Ann := { lits := [], live := liveAt [(0, [0]), (1, [4]), (2, [2]), (3, [2])], own := atReg [] }
def a_ref01_Compare : Ann := { lits := [], live := liveAt [(0, [2, 3]), (1, [2, 3, 14]), (2, [4]), (3, [5, 6]), (4, [5, 41]), (5, [4]), (6, [42]), (7, [4]), (8, [4])], own := atReg [] }
def a_severity_right : Ann := { lits := [], live := liveAt [(0, [0]), (1, [0, 5]), (2, [2]), (3, [2])], own := atReg [] }
def a_slices_SortFunc_int_int : Ann := { lits := [], live := liveAt [(0, [0, 1, 4]), (1, [])], own := atReg [] }
def a_severity_Rank_1 : Ann := { lits := [], live := liveAt [(0, [0, 1, 2]), (1, [5])], own := atReg [] }
def a_cmp_Or_int : Ann := { lits := [], live := liveAt [(0, [0]), (1, [0, 3]), (2, [3, 6, 7, 8]), (3, [3, 6, 7, 8, 9]), (4, [3, 5, 6, 7, 8]), (5, [3, 5, 6, 7, 8, 14]), (6, [2]), (7, [3, 6, 7, 8]), (8, [2])], own := atReg [] }
def a_ratio_Compare : Ann := { lits := [], live := liveAt [(0, [2, 3]), (1, [2, 3, 14]), (2, [4]), (3, [5, 6]), (4, [5, 6, 27]), (5, [4]), (6, [5, 6, 39]), (7, [4]), (8, [5, 6, 42]), (9, [4]), (10, [4])], own := atReg [] }
def a_cmp_Compare_int : Ann := { lits := [], live := liveAt [(0, [0, 1]), (1, [0, 1, 5]), (2, [0, 1, 5, 6]), (3, [0, 1, 6, 11]), (4, [12]), (5, [4]), (6, [4]), (7, [0, 1, 13]), (8, [4]), (9, [0, 1, 16]), (10, [4]), (11, [19]), (12, [4]), (13, [4])], own := atReg [] }
def a_severity_zero : Ann := { lits := [], live := liveAt [(0, [0]), (1, [0])], own := atReg [] }
def a_severity_isMark : Ann := { lits := [], live := liveAt [(0, [0]), (1, [2])], own := atReg [] }
def a_ratio_New : Ann := { lits := [], live := liveAt [(0, [0, 1, 4]), (1, [0, 1, 4, 8]), (2, [4, 5]), (3, [0, 1, 4, 6]), (4, [4, 5])], own := atReg [] }
def a_ref01_Valid : Ann := { lits := [], live := liveAt [(0, [1]), (1, [1, 20]), (2, [2]), (3, [2])], own := atReg [] }
def a_ref01_total : Ann := { lits := [], live := liveAt [(0, [0, 2, 5, 7, 9]), (1, [0, 2, 5, 7, 9, 12]), (2, [8, 9]), (3, [0, 2, 5, 7, 9, 20]), (4, [8, 9]), (5, [8, 9])], own := atReg [] }
def a_ref01_Product : Ann := { lits := [], live := liveAt [(0, [0, 1, 4]), (1, [4, 5, 6]), (2, [4])], own := atReg [] }
def a_ref01_Size : Ann := { lits := [], live := liveAt [(0, [0]), (1, [0, 4]), (2, [2]), (3, [2])], own := atReg [] }
def a_slices_ContainsFunc_api_Judged_api_Judged : Ann := { lits := [], live := liveAt [(0, [0, 1]), (1, [4])], own := atReg [] }
def a_severity_right_1 : Ann := { lits := [], live := liveAt [(0, [1]), (1, [2])], own := atReg [] }
def a_slices_pdqsortCmpFunc_int : Ann := { lits := [], live := liveAt [(0, [0, 1, 2, 3, 4, 10]), (1, [0, 1, 2, 3, 4, 10, 11]), (2, [0, 1, 2, 3, 4, 10, 11, 12]), (3, [0, 1, 2, 3, 4, 10, 11, 12, 25]), (4, []), (5, [0, 1, 2, 3, 4, 10, 11, 12, 32]), (6, []), (7, [0, 1, 2, 3, 4, 10, 11, 12, 39]), (8, [0, 1, 2, 3, 4, 10, 11, 12]), (9, [0, 1, 2, 3, 4, 10, 11, 12]), (10, [0, 1, 2, 3, 4, 10, 11, 12, 13, 14]), (11, [0, 1, 2, 3, 4, 10, 11, 12, 13, 14, 56]), (12, [0, 1, 2, 3, 4, 10, 11, 12, 13]), (13, [0, 1, 2, 3, 4, 10, 11, 12, 13]), (14, [0, 1, 2, 3, 4, 10, 11, 12, 13, 14]), (15, [0, 1, 2, 3, 4, 10, 11, 12, 13, 75]), (16, [0, 1, 2, 3, 4, 10, 11, 12, 13, 80]), (17, [0, 1, 2, 3, 4, 10, 11, 12, 13, 97]), (18, [0, 2, 3, 4, 10, 11, 15]), (19, [0, 1, 2, 3, 4, 10, 11]), (20, [0, 1, 2, 3, 4, 12, 16, 17]), (21, [0, 1, 2, 3, 4, 11, 12, 16]), (22, [0, 1, 2, 3, 4, 11, 12, 16, 18, 19]), (23, [0, 1, 2, 3, 4, 11, 16, 18, 19, 20]), (24, [0, 1, 2, 3, 4, 11, 16, 18, 19, 20, 125]), (25, [0, 1, 2, 3, 4, 10, 11, 16]), (26, [0, 2, 3, 4, 10, 11, 16]), (27, [0, 1, 2, 3, 4, 10, 11]), (28, [0, 1, 2, 3, 4, 10, 11, 16]), (29, [0, 1, 3, 4, 10, 11, 16]), (30, [0, 1, 2, 3, 4, 10, 11])], own := atReg [] }
def a_bits_Len : Ann := { lits := [], live := liveAt [(0, [0]), (1, [2]), (2, [2])], own := atReg [] }
def a_ratio_Valid : Ann := { lits := [], live := liveAt [(0, [1]), (1, [1, 20]), (2, [2]), (3, [2])], own := atReg [] }
def a_ratio_signedProduct : Ann := { lits := [], live := liveAt [(0, [0, 1, 4]), (1, [4])], own := atReg [] }
def a_ratio_wide_compare : Ann := { lits := [], live := liveAt [(0, [2, 3]), (1, [2, 3, 5]), (2, [2, 3, 5, 12]), (3, [4]), (4, [4])], own := atReg [] }
def a_cmp_isNaN_int : Ann := { lits := [], live := liveAt [(0, [0]), (1, [2])], own := atReg [] }
def a_ratio_reduced : Ann := { lits := [], live := liveAt [(0, [1, 2, 4]), (1, [1, 2, 4, 6]), (2, [4, 5])], own := atReg [] }
def a_ratio_magnitude : Ann := { lits := [], live := liveAt [(0, [0]), (1, [0, 4]), (2, [2]), (3, [2])], own := atReg [] }
def a_ref01_Divisor : Ann := { lits := [], live := liveAt [(0, [2, 3, 4]), (1, [2, 3, 4, 9]), (2, [2, 3, 4, 6]), (3, [2, 3, 4]), (4, [4])], own := atReg [] }
def a_ref01_Plus : Ann := { lits := [], live := liveAt [(0, [2, 3, 4]), (1, [2, 3, 4, 5, 6]), (2, [4, 5, 7]), (3, [4])], own := atReg [] }
def a_ref01_Order : Ann := { lits := [], live := liveAt [(0, [2, 3]), (1, [2, 3, 23]), (2, [4]), (3, [26]), (4, [4]), (5, [4])], own := atReg [] }
def a_ref01_Minus : Ann := { lits := [], live := liveAt [(0, [2, 3, 4]), (1, [2, 3, 4, 5, 6]), (2, [4, 5, 7]), (3, [4])], own := atReg [] }
def a_bits_Mul64 : Ann := { lits := [], live := liveAt [(0, [0, 1]), (1, [0, 1, 6]), (2, [0, 1, 6, 7]), (3, [0, 1, 6, 7, 8]), (4, [0, 1, 6, 7, 8, 9]), (5, [0, 1, 6, 7, 8, 9, 10]), (6, [0, 1, 6, 7, 9, 11]), (7, [0, 1, 6, 7, 9, 11, 12]), (8, [0, 1, 6, 7, 9, 12, 13]), (9, [0, 1, 7, 9, 12, 13]), (10, [0, 1, 4]), (11, [4, 5])], own := atReg [] }
def a_slices_IndexFunc_api_Judged_api_Judged : Ann := { lits := [], live := liveAt [(0, [0, 1]), (1, [0, 1, 7, 8]), (2, [0, 1, 7, 8, 9]), (3, [0, 1, 5, 7, 8]), (4, [0, 1, 5, 7, 8, 16]), (5, [4]), (6, [0, 1, 7, 8]), (7, [4])], own := atReg [] }
def a_slices_insertionSortCmpFunc_int : Ann := { lits := [], live := liveAt [(0, [0, 1, 2, 3, 8]), (1, [0, 1, 2, 3, 8, 14]), (2, [0, 1, 2, 3, 8]), (3, [0, 1, 2, 3, 8, 9]), (4, [0, 1, 2, 3, 8, 9, 34]), (5, [0, 1, 2, 3, 8, 9]), (6, [0, 1, 2, 3, 8, 9])], own := atReg [] }
def a_slices_heapSortCmpFunc_int : Ann := { lits := [], live := liveAt [(0, [0, 1, 2, 3, 8]), (1, [0, 1, 2, 3, 8, 9]), (2, [0, 3, 8, 9, 10]), (3, [0, 3, 8, 9, 10, 11]), (4, [0, 3, 8, 9, 10, 11, 21]), (5, [0, 3, 8, 9, 10, 11]), (6, [0, 3, 8, 9, 10, 11]), (7, [0, 3, 8, 9, 12]), (8, [0, 3, 8, 9, 12, 33]), (9, [0, 3, 8, 9, 12]), (10, [0, 3, 8, 9, 12]), (11, [0, 3, 8, 9, 12])], own := atReg [] }
def a_slices_breakPatternsCmpFunc_int : Ann := { lits := [], live := liveAt [(0, [0, 1, 8]), (1, [0, 1, 8, 17]), (2, [0, 1, 8, 9]), (3, [0, 1, 8, 9, 10]), (4, [0, 1, 8, 9, 10, 11]), (5, [0, 1, 8, 9, 10, 11, 35]), (6, [0, 1, 8, 9, 10, 11]), (7, [0, 1, 8, 9, 10, 11, 12]), (8, [0, 1, 8, 9, 10, 11, 12, 45]), (9, [0, 1, 8, 9, 10, 11, 12]), (10, [0, 1, 8, 9, 10, 11])], own := atReg [] }
def a_slices_choosePivotCmpFunc_int : Ann := { lits := [], live := liveAt [(0, [0, 1, 2, 3]), (1, [0, 1, 3, 10]), (2, [0, 1, 3, 10, 11]), (3, [0, 1, 3, 10, 11, 12]), (4, [0, 1, 3, 10, 11, 12, 13]), (5, [0, 3, 10, 11, 12, 13, 14]), (6, [0, 3, 10, 11, 12, 13, 14, 34]), (7, [0, 3, 11, 12, 13, 14, 36]), (8, [0, 3, 11, 12, 13, 14]), (9, [0, 3, 11, 12, 13, 14]), (10, [0, 3, 11, 12, 13, 14]), (11, [11, 13]), (12, [13, 55]), (13, [8, 9]), (14, [13, 55, 57]), (15, [8, 9]), (16, [13, 60]), (17, [8, 9])], own := atReg [] }
def a_slices_reverseRangeCmpFunc_int : Ann := { lits := [], live := liveAt [(0, [0, 2, 8]), (1, [0, 8, 9]), (2, [0, 8, 9, 15]), (3, [0, 8, 9]), (4, [0, 8, 9]), (5, [0, 8, 9])], own := atReg [] }
def a_slices_partialInsertionSortCmpFunc_int : Ann := { lits := [], live := liveAt [(0, [0, 1, 2, 3]), (1, [0, 1, 2, 3, 9]), (2, [0, 1, 2, 3, 9, 10]), (3, [0, 1, 2, 3, 9, 10, 16]), (4, [0, 1, 2, 3, 9, 10]), (5, [0, 1, 2, 3, 9, 10, 36]), (6, [0, 1, 2, 3, 9, 10]), (7, [0, 1, 2, 3, 9, 10, 41]), (8, [8]), (9, [0, 1, 2, 3, 9, 10, 45]), (10, [8]), (11, [0, 1, 2, 3, 9, 10]), (12, [0, 1, 2, 3, 9, 10, 65]), (13, [0, 1, 2, 3, 9, 10, 11]), (14, [0, 1, 2, 3, 9, 10, 11, 69]), (15, [0, 1, 2, 3, 9, 10, 11]), (16, [0, 1, 2, 3, 9, 10, 11, 84]), (17, [0, 1, 2, 3, 9, 10, 11]), (18, [0, 1, 2, 3, 9, 10, 104]), (19, [0, 1, 2, 3, 9, 10, 12]), (20, [0, 1, 2, 3, 9, 10, 12, 109]), (21, [0, 1, 2, 3, 9, 10, 12]), (22, [0, 1, 2, 3, 9, 10, 12, 124]), (23, [0, 1, 2, 3, 9, 10, 12]), (24, [8])], own := atReg [] }
def a_slices_partitionEqualCmpFunc_int : Ann := { lits := [], live := liveAt [(0, [0, 1, 2, 3, 4]), (1, [0, 1, 2, 4]), (2, [0, 1, 4, 11, 12]), (3, [0, 1, 4, 11, 12, 47]), (4, [0, 1, 4, 11, 12]), (5, [0, 1, 4, 11, 12, 65]), (6, [0, 1, 4, 11, 12]), (7, [0, 1, 4, 11, 12, 70]), (8, [0, 1, 4, 11, 12]), (9, [0, 1, 4, 11, 12]), (10, [0, 1, 4, 11, 12]), (11, [10])], own := atReg [] }
def a_slices_partitionCmpFunc_int : Ann := { lits := [], live := liveAt [(0, [0, 1, 2, 3, 4]), (1, [0, 1, 2, 4]), (2, [0, 1, 4, 12, 13]), (3, [0, 1, 4, 12, 13, 47]), (4, [0, 1, 4, 12, 13]), (5, [0, 1, 4, 12, 13, 66]), (6, [0, 1, 4, 12, 13]), (7, [0, 1, 4, 12, 13, 71]), (8, [13]), (9, [10, 11]), (10, [0, 1, 4, 12, 13]), (11, [0, 1, 4, 12, 13]), (12, [0, 1, 4, 12, 13]), (13, [0, 1, 4, 12, 13, 120]), (14, [0, 1, 4, 12, 13]), (15, [0, 1, 4, 12, 13, 139]), (16, [0, 1, 4, 12, 13]), (17, [0, 1, 4, 12, 13, 144]), (18, [0, 1, 4, 12, 13]), (19, [0, 1, 4, 12, 13]), (20, [0, 1, 4, 12, 13]), (21, [13]), (22, [10, 11])], own := atReg [] }
def a_bits_Len32 : Ann := { lits := [], live := liveAt [(0, [0, 2]), (1, [0, 2, 4]), (2, [0]), (3, [0, 2]), (4, [0, 2, 8]), (5, [0, 2]), (6, [0, 2]), (7, [2])], own := atReg [] }
def a_bits_Len64 : Ann := { lits := [], live := liveAt [(0, [0, 2]), (1, [0, 2, 4]), (2, [0]), (3, [0, 2]), (4, [0, 2, 8]), (5, [0, 2]), (6, [0, 2]), (7, [0, 2, 14]), (8, [0, 2]), (9, [0, 2]), (10, [2])], own := atReg [] }
def a_ratio_gcd : Ann := { lits := [], live := liveAt [(0, [0, 1]), (1, [0, 1, 6]), (2, [0, 1]), (3, [4])], own := atReg [] }
def a_ratio_product : Ann := { lits := [], live := liveAt [(0, [0, 1, 4]), (1, [4, 5, 6]), (2, [4])], own := atReg [] }
def a_cmp_Compare_uint64 : Ann := { lits := [], live := liveAt [(0, [0, 1]), (1, [0, 1, 5]), (2, [0, 1, 5, 6]), (3, [0, 1, 6, 11]), (4, [12]), (5, [4]), (6, [4]), (7, [0, 1, 13]), (8, [4]), (9, [0, 1, 16]), (10, [4]), (11, [19]), (12, [4]), (13, [4])], own := atReg [] }
def a_ratio_wide_mod : Ann := { lits := [], live := liveAt [(0, [1, 2]), (1, [4])], own := atReg [] }
def a_ratio_fitted : Ann := { lits := [], live := liveAt [(0, [0, 4, 5, 6]), (1, [0, 4, 5, 6, 26]), (2, [6, 7]), (3, [0, 5, 6, 8]), (4, [5, 6, 8, 31]), (5, [5, 6, 8]), (6, [6, 7])], own := atReg [] }
def a_ratio_wide_over : Ann := { lits := [], live := liveAt [(0, [1, 2, 4]), (1, [1, 2, 4, 5, 6]), (2, [4, 5, 7]), (3, [4])], own := atReg [] }
def a_ref01_Divide : Ann := { lits := [], live := liveAt [(0, [2, 3, 4, 5]), (1, [2, 3, 4, 5, 18]), (2, [4, 5]), (3, [2, 3, 4, 5, 6, 7]), (4, [2, 3, 4, 5, 6, 7, 8]), (5, [2, 3, 4, 5, 6, 7, 8, 34]), (6, [2, 3, 4, 5, 6, 7, 8]), (7, [2, 3, 4, 5, 6, 7, 8, 9]), (8, [2, 3, 4, 5, 6, 7, 8, 9, 45]), (9, [2, 3, 4, 5, 6, 7, 8, 9]), (10, [2, 3, 4, 5, 6, 7, 8, 9, 10]), (11, [2, 3, 4, 5, 6, 7, 8, 9, 10]), (12, [2, 3, 4, 5, 6, 7, 8, 10]), (13, [2, 3, 4, 5, 6, 7, 8, 10]), (14, [2, 3, 4, 5, 6, 7, 8, 72]), (15, [2, 3, 4, 5, 6, 7, 8]), (16, [2, 3, 4, 5, 6, 7, 8]), (17, [4, 5])], own := atReg [] }
def a_slices_siftDownCmpFunc_int : Ann := { lits := [], live := liveAt [(0, [0, 2, 3, 4, 10]), (1, [0, 2, 3, 4, 10, 11]), (2, [0, 2, 3, 4, 10, 11, 18]), (3, [0, 2, 3, 4, 10, 11, 40]), (4, [0, 2, 3, 4, 10, 11]), (5, [0, 2, 3, 4, 10, 11, 58]), (6, [0, 2, 3, 4, 11]), (7, [0, 2, 3, 4, 10])], own := atReg [] }
def a_slices_nextPowerOfTwo : Ann := { lits := [], live := liveAt [(0, [0]), (1, [2])], own := atReg [] }
def a_slices_xorshift_Next : Ann := { lits := [], live := liveAt [(0, [0]), (1, [0]), (2, [0]), (3, [0]), (4, [2])], own := atReg [] }
def a_slices_medianAdjacentCmpFunc_int : Ann := { lits := [], live := liveAt [(0, [0, 1, 2, 3]), (1, [8])], own := atReg [] }
def a_slices_medianCmpFunc_int : Ann := { lits := [], live := liveAt [(0, [0, 1, 2, 3, 4, 5]), (1, [0, 1, 2, 3, 4, 5]), (2, [0, 1, 2, 4, 5]), (3, [2]), (4, [12])], own := atReg [] }
def a_cmp_isNaN_uint64 : Ann := { lits := [], live := liveAt [(0, [0]), (1, [2])], own := atReg [] }
def a_bits_Rem64 : Ann := { lits := [], live := liveAt [(0, [0, 1, 2]), (1, [8]), (2, [6])], own := atReg [] }
def a_bits_Div64 : Ann := { lits := [], live := liveAt [(0, [0, 1, 2]), (1, [0, 1, 2, 20]), (2, [0, 1, 2]), (3, [0, 1, 2, 24]), (4, [0, 1, 2]), (5, [0, 1, 2, 27]), (6, [6, 7]), (7, [0, 1, 2, 8]), (8, [0, 1, 2, 8]), (9, [0, 1, 2, 8, 9]), (10, [0, 1, 2, 8, 9, 10]), (11, [1, 2, 8, 9, 10, 11]), (12, [2, 8, 9, 10, 11, 12]), (13, [2, 8, 9, 10, 11, 12, 13]), (14, [2, 8, 9, 10, 11, 13, 14]), (15, [2, 8, 9, 10, 11, 13, 14, 15]), (16, [2, 8, 9, 10, 11, 13, 14, 15, 16]), (17, [2, 8, 9, 10, 11, 13, 14, 15, 16, 78]), (18, [2, 8, 9, 10, 11, 13, 14, 15, 16]), (19, [2, 8, 9, 10, 11, 13, 14, 15, 16]), (20, [2, 8, 9, 10, 11, 13, 14, 15, 16, 85]), (21, [2, 8, 9, 10, 14, 15, 17]), (22, [2, 8, 9, 10, 14, 15, 17, 18]), (23, [2, 8, 9, 10, 14, 15, 16, 17, 18]), (24, [2, 8, 9, 10, 14, 15, 16, 17, 18, 113]), (25, [2, 8, 9, 10, 14, 15, 16, 17, 18]), (26, [2, 8, 9, 10, 14, 15, 16, 17, 18]), (27, [2, 8, 9, 10, 14, 15, 16, 17, 18, 120]), (28, [6, 7])], own := atReg [] }
def a_ref01_Twice : Ann := { lits := [], live := liveAt [(0, [1, 2]), (1, [2])], own := atReg [] }
def a_slices_order2CmpFunc_int : Ann := { lits := [], live := liveAt [(0, [0, 1, 2, 3, 4]), (1, [1, 2, 3, 22]), (2, [1, 2]), (3, [10, 11]), (4, [10, 11])], own := atReg [] }
def a_bits_LeadingZeros64 : Ann := { lits := [], live := liveAt [(0, [0]), (1, [2])], own := atReg [] }
def annTab : List Ann := [{ lits := [], live := fun _ => none, own := fun _ => [] }, { lits := [], live := fun _ => none, own := fun _ => [] }, { lits := [], live := fun _ => none, own := fun _ => [] }, a_law31_SeverityBounds, a_law31_SeverityRanks, a_law31_SeverityKappa, a_mark_Light, a_law31_sane, a_law31_pairs, a_mark_Roll, a_severity_Bias, a_severity_Spread, a_severity_Agreement, a_ref01_Less, a_severity_Rank, a_law31_same, a_severity_Kappa, a_mark_Dice_Next, a_severity_mean, a_severity_Bias_1, a_severity_Spread_1, a_severity_Agreement_1, a_ref01_Compare, a_severity_right, a_slices_SortFunc_int_int, a_severity_Rank_1, a_cmp_Or_int, a_ratio_Compare, a_cmp_Compare_int, a_severity_zero, a_severity_isMark, a_ratio_New, a_ref01_Valid, a_ref01_total, a_ref01_Product, a_ref01_Size, a_slices_ContainsFunc_api_Judged_api_Judged, a_severity_right_1, a_slices_pdqsortCmpFunc_int, a_bits_Len, a_ratio_Valid, a_ratio_signedProduct, a_ratio_wide_compare, a_cmp_isNaN_int, a_ratio_reduced, a_ratio_magnitude, a_ref01_Divisor, a_ref01_Plus, a_ref01_Order, a_ref01_Minus, a_bits_Mul64, a_slices_IndexFunc_api_Judged_api_Judged, a_slices_insertionSortCmpFunc_int, a_slices_heapSortCmpFunc_int, a_slices_breakPatternsCmpFunc_int, a_slices_choosePivotCmpFunc_int, a_slices_reverseRangeCmpFunc_int, a_slices_partialInsertionSortCmpFunc_int, a_slices_partitionEqualCmpFunc_int, a_slices_partitionCmpFunc_int, a_bits_Len32, a_bits_Len64, a_ratio_gcd, a_ratio_product, a_cmp_Compare_uint64, a_ratio_wide_mod, a_ratio_fitted, a_ratio_wide_over, a_ref01_Divide, { lits := [], live := fun _ => none, own := fun _ => [] }, { lits := [], live := fun _ => none, own := fun _ => [] }, a_slices_siftDownCmpFunc_int, a_slices_nextPowerOfTwo, a_slices_xorshift_Next, a_slices_medianAdjacentCmpFunc_int, a_slices_medianCmpFunc_int, a_cmp_isNaN_uint64, a_bits_Rem64, a_bits_Div64, a_ref01_Twice, a_slices_order2CmpFunc_int, a_bits_LeadingZeros64, { lits := [], live := fun _ => none, own := fun _ => [] }, { lits := [], live := fun _ => none, own := fun _ => [] }, { lits := [], live := fun _ => none, own := fun _ => [] }, { lits := [], live := fun _ => none, own := fun _ => [] }, { lits := [], live := fun _ => none, own := fun _ => [] }, { lits := [], live := fun _ => none, own := fun _ => [] }, { lits := [], live := fun _ => none, own := fun _ => [] }, { lits := [], live := fun _ => none, own := fun _ => [] }, { lits := [], live := fun _ => none, own := fun _ => [] }, { lits := [], live := fun _ => none, own := fun _ => [] }, { lits := [], live := fun _ => none, own := fun _ => [] }, { lits := [], live := fun _ => none, own := fun _ => [] }, { lits := [], live := fun _ => none, own := fun _ => [] }, { lits := [], live := fun _ => none, own := fun _ => [] }, { lits := [], live := fun _ => none, own := fun _ => [] }, { lits := [], live := fun _ => none, own := fun _ => [] }, { lits := [], live := fun _ => none, own := fun _ => [] }, { lits := [], live := fun _ => none, own := fun _ => [] }, { lits := [], live := fun _ => none, own := fun _ => [] }]
def zA : AnnF := fun f => annTab.getD f { lits := [], live := fun _ => none, own := fun _ => [] }
noncomputable abbrev r_law31_SeverityBounds : RD := r1 vBool
noncomputable abbrev r_law31_SeverityRanks : RD := r1 vBool
noncomputable abbrev r_law31_SeverityKappa : RD := r1 vBool
noncomputable abbrev r_mark_Light : RD := r1 vBool
noncomputable abbrev r_law31_sane : RD := r1 vBool
noncomputable abbrev r_law31_pairs : RD := r1M (vNew 3 ty_api_Judged dGJudged) (mBox 1000 2 ty_mark_Dice dGmarkDice)
noncomputable abbrev r_mark_Roll : RD := r1 (vNewp 2 ty_mark_Dice dGmarkDice)
noncomputable abbrev r_severity_Bias : RD := rT (lCons (vAgg dGRatio) (lOne vBool))
noncomputable abbrev r_severity_Spread : RD := rT (lCons (vAgg dGRatio) (lOne vBool))
noncomputable abbrev r_severity_Agreement : RD := rT (lCons (vAgg dGRatio) (lOne vBool))
noncomputable abbrev r_ref01_Less : RD := r1 vBool
noncomputable abbrev r_severity_Rank : RD := r1 (vNew 1 ty_i64_2 dI_i64)
noncomputable abbrev r_law31_same : RD := r1 vBool
noncomputable abbrev r_severity_Kappa : RD := rT (lCons (vAgg dGRatio) (lOne vBool))
noncomputable abbrev r_mark_Dice_Next : RD := r1M (vI .i64) (mBox 1000 2 ty_mark_Dice dGmarkDice)
noncomputable abbrev r_severity_mean : RD := rT (lCons (vAgg dGRatio) (lOne vBool))
noncomputable abbrev r_severity_Bias_1 : RD := r1 (vI .i64)
noncomputable abbrev r_severity_Spread_1 : RD := r1 (vI .i64)
noncomputable abbrev r_severity_Agreement_1 : RD := r1 (vI .i64)
noncomputable abbrev r_ref01_Compare : RD := r1 (vI .i64)
noncomputable abbrev r_severity_right : RD := r1 vBool
noncomputable abbrev r_slices_SortFunc_int_int : RD := r0M (mRow 1000 1 ty_i64_2 dI_i64)
noncomputable abbrev r_severity_Rank_1 : RD := r1 (vI .i64)
noncomputable abbrev r_cmp_Or_int : RD := r1 (vI .i64)
noncomputable abbrev r_ratio_Compare : RD := r1 (vI .i64)
noncomputable abbrev r_cmp_Compare_int : RD := r1 (vI .i64)
noncomputable abbrev r_severity_zero : RD := r1 (vAgg dGRatio)
noncomputable abbrev r_severity_isMark : RD := r1 vBool
noncomputable abbrev r_ratio_New : RD := rT (lCons (vAgg dGRatio) (lOne (vI .i64)))
noncomputable abbrev r_ref01_Valid : RD := r1 vBool
noncomputable abbrev r_ref01_total : RD := rT (lCons vBool (lOne (vAgg dGref01Wide)))
noncomputable abbrev r_ref01_Product : RD := r1 (vAgg dGref01Wide)
noncomputable abbrev r_ref01_Size : RD := r1 (vI .u64)
noncomputable abbrev r_slices_ContainsFunc_api_Judged_api_Judged : RD := r1 vBool
noncomputable abbrev r_severity_right_1 : RD := r1 vBool
noncomputable abbrev r_slices_pdqsortCmpFunc_int : RD := r0M (mRow 1000 1 ty_i64_2 dI_i64)
noncomputable abbrev r_bits_Len : RD := r1 (vI .i64)
noncomputable abbrev r_ratio_Valid : RD := r1 vBool
noncomputable abbrev r_ratio_signedProduct : RD := r1 (vAgg dGratioSigned)
noncomputable abbrev r_ratio_wide_compare : RD := r1 (vI .i64)
noncomputable abbrev r_cmp_isNaN_int : RD := r1 vBool
noncomputable abbrev r_ratio_reduced : RD := rT (lCons (vAgg dGRatio) (lOne (vI .i64)))
noncomputable abbrev r_ratio_magnitude : RD := r1 (vI .u64)
noncomputable abbrev r_ref01_Divisor : RD := r1 (vAgg dGref01Wide)
noncomputable abbrev r_ref01_Plus : RD := r1 (vAgg dGref01Wide)
noncomputable abbrev r_ref01_Order : RD := r1 (vI .i64)
noncomputable abbrev r_ref01_Minus : RD := r1 (vAgg dGref01Wide)
noncomputable abbrev r_bits_Mul64 : RD := rT (lCons (vI .u64) (lOne (vI .u64)))
noncomputable abbrev r_slices_IndexFunc_api_Judged_api_Judged : RD := r1 (vI .i64)
noncomputable abbrev r_slices_insertionSortCmpFunc_int : RD := r0M (mRow 1000 1 ty_i64_2 dI_i64)
noncomputable abbrev r_slices_heapSortCmpFunc_int : RD := r0M (mRow 1000 1 ty_i64_2 dI_i64)
noncomputable abbrev r_slices_breakPatternsCmpFunc_int : RD := r0M (mRow 1000 1 ty_i64_2 dI_i64)
noncomputable abbrev r_slices_choosePivotCmpFunc_int : RD := rT (lCons (vI .i64) (lOne (vI .i64)))
noncomputable abbrev r_slices_reverseRangeCmpFunc_int : RD := r0M (mRow 1000 1 ty_i64_2 dI_i64)
noncomputable abbrev r_slices_partialInsertionSortCmpFunc_int : RD := r1M vBool (mRow 1000 1 ty_i64_2 dI_i64)
noncomputable abbrev r_slices_partitionEqualCmpFunc_int : RD := r1M (vI .i64) (mRow 1000 1 ty_i64_2 dI_i64)
noncomputable abbrev r_slices_partitionCmpFunc_int : RD := rTM (lCons (vI .i64) (lOne vBool)) (mRow 1000 1 ty_i64_2 dI_i64)
noncomputable abbrev r_bits_Len32 : RD := r1 (vI .i64)
noncomputable abbrev r_bits_Len64 : RD := r1 (vI .i64)
noncomputable abbrev r_ratio_gcd : RD := r1 (vI .u64)
noncomputable abbrev r_ratio_product : RD := r1 (vAgg dGratioWide)
noncomputable abbrev r_cmp_Compare_uint64 : RD := r1 (vI .i64)
noncomputable abbrev r_ratio_wide_mod : RD := r1 (vI .u64)
noncomputable abbrev r_ratio_fitted : RD := rT (lCons (vAgg dGRatio) (lOne (vI .i64)))
noncomputable abbrev r_ratio_wide_over : RD := r1 (vAgg dGratioWide)
noncomputable abbrev r_ref01_Divide : RD := rT (lCons (vAgg dGref01Wide) (lOne (vAgg dGref01Wide)))
noncomputable abbrev r_slices_siftDownCmpFunc_int : RD := r0M (mRow 1000 1 ty_i64_2 dI_i64)
noncomputable abbrev r_slices_nextPowerOfTwo : RD := r1 (vI .u64)
noncomputable abbrev r_slices_xorshift_Next : RD := r1M (vI .u64) (mBox 1000 1 ty_slices_xorshift dI_u64)
noncomputable abbrev r_slices_medianAdjacentCmpFunc_int : RD := r1M (vI .i64) (mBox 1002 1 ty_i64_2 dI_i64)
noncomputable abbrev r_slices_medianCmpFunc_int : RD := r1M (vI .i64) (mBox 1004 1 ty_i64_2 dI_i64)
noncomputable abbrev r_cmp_isNaN_uint64 : RD := r1 vBool
noncomputable abbrev r_bits_Rem64 : RD := r1 (vI .u64)
noncomputable abbrev r_bits_Div64 : RD := rT (lCons (vI .u64) (lOne (vI .u64)))
noncomputable abbrev r_ref01_Twice : RD := r1 (vAgg dGref01Wide)
noncomputable abbrev r_slices_order2CmpFunc_int : RD := rTM (lCons (vI .i64) (lOne (vI .i64))) (mBox 1003 1 ty_i64_2 dI_i64)
noncomputable abbrev r_bits_LeadingZeros64 : RD := r1 (vI .i64)
noncomputable def resTab : List RD := [rRaw, rRaw, rRaw, r_law31_SeverityBounds, r_law31_SeverityRanks, r_law31_SeverityKappa, r_mark_Light, r_law31_sane, r_law31_pairs, r_mark_Roll, r_severity_Bias, r_severity_Spread, r_severity_Agreement, r_ref01_Less, r_severity_Rank, r_law31_same, r_severity_Kappa, r_mark_Dice_Next, r_severity_mean, r_severity_Bias_1, r_severity_Spread_1, r_severity_Agreement_1, r_ref01_Compare, r_severity_right, r_slices_SortFunc_int_int, r_severity_Rank_1, r_cmp_Or_int, r_ratio_Compare, r_cmp_Compare_int, r_severity_zero, r_severity_isMark, r_ratio_New, r_ref01_Valid, r_ref01_total, r_ref01_Product, r_ref01_Size, r_slices_ContainsFunc_api_Judged_api_Judged, r_severity_right_1, r_slices_pdqsortCmpFunc_int, r_bits_Len, r_ratio_Valid, r_ratio_signedProduct, r_ratio_wide_compare, r_cmp_isNaN_int, r_ratio_reduced, r_ratio_magnitude, r_ref01_Divisor, r_ref01_Plus, r_ref01_Order, r_ref01_Minus, r_bits_Mul64, r_slices_IndexFunc_api_Judged_api_Judged, r_slices_insertionSortCmpFunc_int, r_slices_heapSortCmpFunc_int, r_slices_breakPatternsCmpFunc_int, r_slices_choosePivotCmpFunc_int, r_slices_reverseRangeCmpFunc_int, r_slices_partialInsertionSortCmpFunc_int, r_slices_partitionEqualCmpFunc_int, r_slices_partitionCmpFunc_int, r_bits_Len32, r_bits_Len64, r_ratio_gcd, r_ratio_product, r_cmp_Compare_uint64, r_ratio_wide_mod, r_ratio_fitted, r_ratio_wide_over, r_ref01_Divide, rRaw, rRaw, r_slices_siftDownCmpFunc_int, r_slices_nextPowerOfTwo, r_slices_xorshift_Next, r_slices_medianAdjacentCmpFunc_int, r_slices_medianCmpFunc_int, r_cmp_isNaN_uint64, r_bits_Rem64, r_bits_Div64, r_ref01_Twice, r_slices_order2CmpFunc_int, r_bits_LeadingZeros64, rRaw, rRaw, rRaw, rRaw, rRaw, rRaw, rRaw, rRaw, rRaw, rRaw, rRaw, rRaw, rRaw, rRaw, rRaw, rRaw, rRaw, rRaw, rRaw]
noncomputable def zT : Dic := Dic.of tyTab resTab
noncomputable abbrev R_law31_SeverityBounds : Fr := ⟨Try.prog, zC, zA, 3, Try.f3, []⟩
noncomputable abbrev R_law31_SeverityRanks : Fr := ⟨Try.prog, zC, zA, 4, Try.f4, []⟩
noncomputable abbrev R_law31_SeverityKappa : Fr := ⟨Try.prog, zC, zA, 5, Try.f5, []⟩
noncomputable abbrev R_mark_Light : Fr := ⟨Try.prog, zC, zA, 6, Try.f6, []⟩
noncomputable abbrev R_law31_sane : Fr := ⟨Try.prog, zC, zA, 7, Try.f7, []⟩
noncomputable abbrev R_law31_pairs : Fr := ⟨Try.prog, zC, zA, 8, Try.f8, [(1000, ⟨0, 0, [], false⟩)]⟩
noncomputable abbrev R_mark_Roll : Fr := ⟨Try.prog, zC, zA, 9, Try.f9, []⟩
noncomputable abbrev R_severity_Bias : Fr := ⟨Try.prog, zC, zA, 10, Try.f10, []⟩
noncomputable abbrev R_severity_Spread : Fr := ⟨Try.prog, zC, zA, 11, Try.f11, []⟩
noncomputable abbrev R_severity_Agreement : Fr := ⟨Try.prog, zC, zA, 12, Try.f12, []⟩
noncomputable abbrev R_ref01_Less : Fr := ⟨Try.prog, zC, zA, 13, Try.f13, []⟩
noncomputable abbrev R_severity_Rank : Fr := ⟨Try.prog, zC, zA, 14, Try.f14, []⟩
noncomputable abbrev R_law31_same : Fr := ⟨Try.prog, zC, zA, 15, Try.f15, []⟩
noncomputable abbrev R_severity_Kappa : Fr := ⟨Try.prog, zC, zA, 16, Try.f16, []⟩
noncomputable abbrev R_mark_Dice_Next : Fr := ⟨Try.prog, zC, zA, 17, Try.f17, [(1000, ⟨0, 0, [], false⟩)]⟩
noncomputable abbrev R_severity_mean : Fr := ⟨Try.prog, zC, zA, 18, Try.f18, []⟩
noncomputable abbrev R_severity_Bias_1 : Fr := ⟨Try.prog, zC, zA, 19, Try.f19, []⟩
noncomputable abbrev R_severity_Spread_1 : Fr := ⟨Try.prog, zC, zA, 20, Try.f20, []⟩
noncomputable abbrev R_severity_Agreement_1 : Fr := ⟨Try.prog, zC, zA, 21, Try.f21, []⟩
noncomputable abbrev R_ref01_Compare : Fr := ⟨Try.prog, zC, zA, 22, Try.f22, []⟩
noncomputable abbrev R_severity_right : Fr := ⟨Try.prog, zC, zA, 23, Try.f23, []⟩
noncomputable abbrev R_slices_SortFunc_int_int : Fr := ⟨Try.prog, zC, zA, 24, Try.f24, [(1000, ⟨0, 0, [], false⟩)]⟩
noncomputable abbrev R_severity_Rank_1 : Fr := ⟨Try.prog, zC, zA, 25, Try.f25, []⟩
noncomputable abbrev R_cmp_Or_int : Fr := ⟨Try.prog, zC, zA, 26, Try.f26, []⟩
noncomputable abbrev R_ratio_Compare : Fr := ⟨Try.prog, zC, zA, 27, Try.f27, []⟩
noncomputable abbrev R_cmp_Compare_int : Fr := ⟨Try.prog, zC, zA, 28, Try.f28, []⟩
noncomputable abbrev R_severity_zero : Fr := ⟨Try.prog, zC, zA, 29, Try.f29, []⟩
noncomputable abbrev R_severity_isMark : Fr := ⟨Try.prog, zC, zA, 30, Try.f30, []⟩
noncomputable abbrev R_ratio_New : Fr := ⟨Try.prog, zC, zA, 31, Try.f31, []⟩
noncomputable abbrev R_ref01_Valid : Fr := ⟨Try.prog, zC, zA, 32, Try.f32, []⟩
noncomputable abbrev R_ref01_total : Fr := ⟨Try.prog, zC, zA, 33, Try.f33, []⟩
noncomputable abbrev R_ref01_Product : Fr := ⟨Try.prog, zC, zA, 34, Try.f34, []⟩
noncomputable abbrev R_ref01_Size : Fr := ⟨Try.prog, zC, zA, 35, Try.f35, []⟩
noncomputable abbrev R_slices_ContainsFunc_api_Judged_api_Judged : Fr := ⟨Try.prog, zC, zA, 36, Try.f36, []⟩
noncomputable abbrev R_severity_right_1 : Fr := ⟨Try.prog, zC, zA, 37, Try.f37, []⟩
noncomputable abbrev R_slices_pdqsortCmpFunc_int : Fr := ⟨Try.prog, zC, zA, 38, Try.f38, [(1000, ⟨0, 0, [], false⟩)]⟩
noncomputable abbrev R_bits_Len : Fr := ⟨Try.prog, zC, zA, 39, Try.f39, []⟩
noncomputable abbrev R_ratio_Valid : Fr := ⟨Try.prog, zC, zA, 40, Try.f40, []⟩
noncomputable abbrev R_ratio_signedProduct : Fr := ⟨Try.prog, zC, zA, 41, Try.f41, []⟩
noncomputable abbrev R_ratio_wide_compare : Fr := ⟨Try.prog, zC, zA, 42, Try.f42, []⟩
noncomputable abbrev R_cmp_isNaN_int : Fr := ⟨Try.prog, zC, zA, 43, Try.f43, []⟩
noncomputable abbrev R_ratio_reduced : Fr := ⟨Try.prog, zC, zA, 44, Try.f44, []⟩
noncomputable abbrev R_ratio_magnitude : Fr := ⟨Try.prog, zC, zA, 45, Try.f45, []⟩
noncomputable abbrev R_ref01_Divisor : Fr := ⟨Try.prog, zC, zA, 46, Try.f46, []⟩
noncomputable abbrev R_ref01_Plus : Fr := ⟨Try.prog, zC, zA, 47, Try.f47, []⟩
noncomputable abbrev R_ref01_Order : Fr := ⟨Try.prog, zC, zA, 48, Try.f48, []⟩
noncomputable abbrev R_ref01_Minus : Fr := ⟨Try.prog, zC, zA, 49, Try.f49, []⟩
noncomputable abbrev R_bits_Mul64 : Fr := ⟨Try.prog, zC, zA, 50, Try.f50, []⟩
noncomputable abbrev R_slices_IndexFunc_api_Judged_api_Judged : Fr := ⟨Try.prog, zC, zA, 51, Try.f51, []⟩
noncomputable abbrev R_slices_insertionSortCmpFunc_int : Fr := ⟨Try.prog, zC, zA, 52, Try.f52, [(1000, ⟨0, 0, [], false⟩)]⟩
noncomputable abbrev R_slices_heapSortCmpFunc_int : Fr := ⟨Try.prog, zC, zA, 53, Try.f53, [(1000, ⟨0, 0, [], false⟩)]⟩
noncomputable abbrev R_slices_breakPatternsCmpFunc_int : Fr := ⟨Try.prog, zC, zA, 54, Try.f54, [(1000, ⟨0, 0, [], false⟩)]⟩
noncomputable abbrev R_slices_choosePivotCmpFunc_int : Fr := ⟨Try.prog, zC, zA, 55, Try.f55, []⟩
noncomputable abbrev R_slices_reverseRangeCmpFunc_int : Fr := ⟨Try.prog, zC, zA, 56, Try.f56, [(1000, ⟨0, 0, [], false⟩)]⟩
noncomputable abbrev R_slices_partialInsertionSortCmpFunc_int : Fr := ⟨Try.prog, zC, zA, 57, Try.f57, [(1000, ⟨0, 0, [], false⟩)]⟩
noncomputable abbrev R_slices_partitionEqualCmpFunc_int : Fr := ⟨Try.prog, zC, zA, 58, Try.f58, [(1000, ⟨0, 0, [], false⟩)]⟩
noncomputable abbrev R_slices_partitionCmpFunc_int : Fr := ⟨Try.prog, zC, zA, 59, Try.f59, [(1000, ⟨0, 0, [], false⟩)]⟩
noncomputable abbrev R_bits_Len32 : Fr := ⟨Try.prog, zC, zA, 60, Try.f60, []⟩
noncomputable abbrev R_bits_Len64 : Fr := ⟨Try.prog, zC, zA, 61, Try.f61, []⟩
noncomputable abbrev R_ratio_gcd : Fr := ⟨Try.prog, zC, zA, 62, Try.f62, []⟩
noncomputable abbrev R_ratio_product : Fr := ⟨Try.prog, zC, zA, 63, Try.f63, []⟩
noncomputable abbrev R_cmp_Compare_uint64 : Fr := ⟨Try.prog, zC, zA, 64, Try.f64, []⟩
noncomputable abbrev R_ratio_wide_mod : Fr := ⟨Try.prog, zC, zA, 65, Try.f65, []⟩
noncomputable abbrev R_ratio_fitted : Fr := ⟨Try.prog, zC, zA, 66, Try.f66, []⟩
noncomputable abbrev R_ratio_wide_over : Fr := ⟨Try.prog, zC, zA, 67, Try.f67, []⟩
noncomputable abbrev R_ref01_Divide : Fr := ⟨Try.prog, zC, zA, 68, Try.f68, []⟩
noncomputable abbrev R_slices_siftDownCmpFunc_int : Fr := ⟨Try.prog, zC, zA, 71, Try.f71, [(1000, ⟨0, 0, [], false⟩)]⟩
noncomputable abbrev R_slices_nextPowerOfTwo : Fr := ⟨Try.prog, zC, zA, 72, Try.f72, []⟩
noncomputable abbrev R_slices_xorshift_Next : Fr := ⟨Try.prog, zC, zA, 73, Try.f73, [(1000, ⟨0, 0, [], false⟩)]⟩
noncomputable abbrev R_slices_medianAdjacentCmpFunc_int : Fr := ⟨Try.prog, zC, zA, 74, Try.f74, [(1002, ⟨0, 0, [], false⟩)]⟩
noncomputable abbrev R_slices_medianCmpFunc_int : Fr := ⟨Try.prog, zC, zA, 75, Try.f75, [(1004, ⟨0, 0, [], false⟩)]⟩
noncomputable abbrev R_cmp_isNaN_uint64 : Fr := ⟨Try.prog, zC, zA, 76, Try.f76, []⟩
noncomputable abbrev R_bits_Rem64 : Fr := ⟨Try.prog, zC, zA, 77, Try.f77, []⟩
noncomputable abbrev R_bits_Div64 : Fr := ⟨Try.prog, zC, zA, 78, Try.f78, []⟩
noncomputable abbrev R_ref01_Twice : Fr := ⟨Try.prog, zC, zA, 79, Try.f79, []⟩
noncomputable abbrev R_slices_order2CmpFunc_int : Fr := ⟨Try.prog, zC, zA, 80, Try.f80, [(1003, ⟨0, 0, [], false⟩)]⟩
noncomputable abbrev R_bits_LeadingZeros64 : Fr := ⟨Try.prog, zC, zA, 81, Try.f81, []⟩
noncomputable abbrev cw : Calling := callw Try.prog zC zA
noncomputable abbrev zP : Program := Try.prog
theorem ke_3 (x y : Int) : keyEq zP 3 (I x) (I y) = some (decide (y = x)) := by
  have h : keyEq zP 3 (I x) (I y) = some (x == y) := by kernel_rfl
  rw [h]
  exact congrArg some (by rw [Bool.beq_eq_decide_eq]; exact decide_eq_decide.2 eq_comm)
theorem lk_M_i64_bool {β : Type} (z : Bool) (key : Int) (l : List (Int × Bool)) (k : Bool → Bool → Option β) : mapD zP 3 false dBool (B z) (List.map dE_I_i64_Bool.enc l) (I key) k = k ((mfind key l).getD z) (mfind key l).isSome :=
  mapD_gen (agg := false) (D := dBool) (kenc := fun x => I x) (venc := fun x => B x) ke_3 (show ∀ x : Bool, avDec false dBool (B x) = some x from fun x => dBool.de x) z key l k
theorem st_M_i64_bool {β : Type} (key : Int) (v : Bool) (l : List (Int × Bool)) (k : List (List AV) → Option β) : msetD zP 3 4 (I key) (B v) (List.map dE_I_i64_Bool.enc l) k = k (List.map dE_I_i64_Bool.enc (mput key v l)) :=
  msetD_gen (kenc := fun x => I x) (venc := fun x => B x) ke_3 key v l k
theorem dl_M_i64_bool {β : Type} (key : Int) (l : List (Int × Bool)) (k : List (List AV) → Option β) : mdelD zP 3 (I key) (List.map dE_I_i64_Bool.enc l) k = k (List.map dE_I_i64_Bool.enc (mrem key l)) :=
  mdelD_gen (kenc := fun x => I x) (venc := fun x => B x) ke_3 key l k
end Go.Proofs.Ytohpjbokhcifbaa
