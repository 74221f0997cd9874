/- Annotations of the seat's functions: what lives behind each region, which slots own rows, which arguments are written; how results read. -/
import Derived.Test.YtapkemilafogjaaTy
import Derived.Test.YtapkemilafogjaaProg
namespace Go.Proofs.Ytapkemilafogjaa
open Go.Ab

abbrev ty_i64 : Nat := 2
abbrev ty_i64_2 : Nat := 3
abbrev ty_bool : Nat := 4
abbrev ty_u8 : Nat := 5
abbrev ty_abi_BoundsErrorCode : Nat := 6
abbrev ty_string : Nat := 9
abbrev ty_runtime_errorString : Nat := 10
abbrev ty_runtime_plainError : Nat := 11
abbrev ty_u64 : Nat := 12
abbrev ty_i32 : Nat := 21
abbrev ty_L_i64 : Nat := 22
abbrev ty_api_Distribution : Nat := 28
abbrev ty_L_api_Point : Nat := 30
abbrev ty_api_Curve : Nat := 32
abbrev ty_api_Errno : Nat := 33
abbrev ty_api_Ratio : Nat := 37
abbrev ty_mark_Dice : Nat := 47
abbrev ty_api_Point : Nat := 53
abbrev ty_u64_2 : Nat := 67
abbrev ty_ratio_wide : Nat := 71
abbrev ty_ratio_signed : Nat := 73
abbrev ty_L_api_Ratio : Nat := 80
abbrev ty_conversion_steps : Nat := 92
abbrev ty_u64_3 : Nat := 106
abbrev ty_slices_sortedHint : Nat := 120
abbrev ty_u32 : Nat := 128
abbrev ty_slices_xorshift : Nat := 130
abbrev ty_abi_TFlag : Nat := 147
abbrev ty_abi_Kind : Nat := 148
abbrev ty_abi_NameOff : Nat := 151
abbrev ty_abi_TypeOff : Nat := 152
def f_law34_EquatingSelf : Nat := 3
def f_mark_Light : Nat := 4
def f_law34_sane : Nat := 5
def f_mark_Roll : Nat := 6
def f_mark_Dice_Distribution : Nat := 7
def f_conversion_Line : Nat := 8
def f_law34_whole : Nat := 9
def f_equating_Equate : Nat := 10
def f_equating_Chain : Nat := 11
def f_conversion_Same : Nat := 12
def f_equating_Percentile : Nat := 13
def f_conversion_Eval : Nat := 14
def f_equating_Mean : Nat := 15
def f_mark_Dice_Next : Nat := 16
def f_mark_Dice_Pick : Nat := 17
def f_ratio_Valid : Nat := 18
def f_ratio_Add : Nat := 19
def f_conversion_whole : Nat := 20
def f_equating_Linear : Nat := 21
def f_conversion_Compose : Nat := 22
def f_conversion_Normal : Nat := 23
def f_slices_Equal_api_Point_api_Point : Nat := 24
def f_distribution_Valid : Nat := 25
def f_slices_Contains_int_int : Nat := 26
def f_equating_sums : Nat := 27
def f_equating_number : Nat := 28
def f_conversion_Valid : Nat := 29
def f_conversion_eval : Nat := 30
def f_equating_both : Nat := 31
def f_distribution_Mean : Nat := 32
def f_equating_through : Nat := 33
def f_ratio_gcd : Nat := 34
def f_ratio_magnitude : Nat := 35
def f_ratio_signedProduct : Nat := 36
def f_ratio_signed_plus : Nat := 37
def f_ratio_wide_mod : Nat := 38
def f_ratio_fitted : Nat := 39
def f_ratio_wide_over : Nat := 40
def f_ratio_product : Nat := 41
def f_distribution_Deviation : Nat := 42
def f_ratio_Div : Nat := 43
def f_conversion_exchanged : Nat := 44
def f_slices_SortFunc_api_Ratio_api_Ratio : Nat := 45
def f_ratio_Compare : Nat := 46
def f_slices_Compact_api_Ratio_api_Ratio : Nat := 47
def f_conversion_normal : Nat := 48
def f_slices_Index_int_int : Nat := 49
def f_ratio_New : Nat := 50
def f_conversion_ascending : Nat := 51
def f_sort_Search : Nat := 52
def f_conversion_eval_1 : Nat := 53
def f_conversion_steps_slope : Nat := 54
def f_conversion_steps_do : Nat := 55
def f_ratio_Mul : Nat := 56
def f_ratio_Sub : Nat := 57
def f_distribution_Count : Nat := 58
def f_distribution_check : Nat := 59
def f_distribution_sumOfScores : Nat := 60
def f_ratio_wide_plus : Nat := 61
def f_ratio_wide_compare : Nat := 62
def f_ratio_wide_minus : Nat := 63
def f_bits_Rem64 : Nat := 64
def f_bits_Div64 : Nat := 65
def f_bits_Mul64 : Nat := 66
def f_slices_pdqsortCmpFunc_api_Ratio : Nat := 67
def f_bits_Len : Nat := 68
def f_conversion_bends : Nat := 69
def f_conversion_pointAt : Nat := 70
def f_ratio_reduced : Nat := 71
def f_ratio_Less : Nat := 72
def f_distribution_Below : Nat := 73
def f_cmp_Compare_uint64 : Nat := 75
def f_bits_LeadingZeros64 : Nat := 77
def f_slices_insertionSortCmpFunc_api_Ratio : Nat := 78
def f_slices_heapSortCmpFunc_api_Ratio : Nat := 79
def f_slices_breakPatternsCmpFunc_api_Ratio : Nat := 80
def f_slices_choosePivotCmpFunc_api_Ratio : Nat := 81
def f_slices_reverseRangeCmpFunc_api_Ratio : Nat := 82
def f_slices_partialInsertionSortCmpFunc_api_Ratio : Nat := 83
def f_slices_partitionEqualCmpFunc_api_Ratio : Nat := 84
def f_slices_partitionCmpFunc_api_Ratio : Nat := 85
def f_bits_Len32 : Nat := 86
def f_bits_Len64 : Nat := 87
def f_cmp_isNaN_uint64 : Nat := 88
def f_slices_siftDownCmpFunc_api_Ratio : Nat := 89
def f_slices_nextPowerOfTwo : Nat := 90
def f_slices_xorshift_Next : Nat := 91
def f_slices_medianAdjacentCmpFunc_api_Ratio : Nat := 92
def f_slices_medianCmpFunc_api_Ratio : Nat := 93
def f_slices_order2CmpFunc_api_Ratio : Nat := 94
noncomputable def zC : Cfg := { wrt := atReg [(7, [0]), (16, [0]), (17, [0]), (45, [0]), (47, [0]), (54, [0]), (55, [0]), (67, [0]), (78, [0]), (79, [0]), (80, [0]), (82, [0]), (83, [0]), (84, [0]), (85, [0]), (89, [0]), (91, [0]), (92, [2]), (93, [4]), (94, [3])] }
def a_law34_EquatingSelf : Ann := { lits := [], live := liveAt [(0, [0, 1]), (1, [0, 1, 17]), (2, [4]), (3, [1, 5]), (4, [1, 6, 7]), (5, [6, 7, 8]), (6, [6, 7, 8, 9, 10]), (7, [6, 7, 8, 9, 10, 11, 12]), (8, [8, 9, 10, 11, 12, 13, 14]), (9, [8, 9, 10, 11, 12, 13, 14, 55]), (10, [4]), (11, [4])], own := atReg [] }
def a_mark_Light : Ann := { lits := [], live := liveAt [(0, [0]), (1, [2])], own := atReg [] }
def a_law34_sane : Ann := { lits := [], live := liveAt [(0, []), (1, [1, 2]), (2, [1, 2, 3, 4]), (3, [1, 2, 4, 5, 6]), (4, [4, 5, 6, 7, 8]), (5, [4, 5, 6, 8, 9, 10]), (6, [0])], own := atReg [] }
def a_mark_Roll : Ann := { lits := [], live := liveAt [(0, [0]), (1, [2])], own := atReg [] }
def a_mark_Dice_Distribution : Ann := { lits := [], live := liveAt [(0, [0, 1, 2, 6]), (1, [0, 1, 2, 6, 7]), (2, [0, 1, 2, 6, 7, 8]), (3, [0, 1, 6, 7, 8, 10]), (4, [0, 1, 6, 7, 8]), (5, [0, 6, 7, 8, 9]), (6, [0, 6, 7, 8, 9, 17]), (7, [0, 6, 7, 8, 9]), (8, [0, 6, 7, 8, 9]), (9, [6])], own := atReg [], cel := fun _ => [(7, 0, 900, 1, 3)] }
def a_conversion_Line : Ann := { lits := [], live := liveAt [(0, [2, 3, 4]), (1, [2, 3, 4, 15]), (2, [4, 5]), (3, [2, 3, 4, 19]), (4, [4, 5]), (5, [3, 4, 6, 7]), (6, [3, 4, 6, 7, 28]), (7, [4, 5]), (8, [4, 5])], own := atReg [] }
def a_law34_whole : Ann := { lits := [], live := liveAt [(0, [0, 2]), (1, [2])], own := atReg [] }
def a_equating_Equate : Ann := { lits := [], live := liveAt [(0, [0, 4, 5, 6]), (1, [4, 5, 6, 8]), (2, [4, 5, 6, 8, 9]), (3, [6, 7]), (4, [4, 5, 6, 8, 16]), (5, [6, 7]), (6, [4, 5, 6, 23]), (7, [6, 7]), (8, [6, 7])], own := atReg [] }
def a_equating_Chain : Ann := { lits := [], live := liveAt [(0, [4, 5, 6, 7, 8, 10]), (1, [4, 7, 8, 10, 12, 13]), (2, [4, 7, 8, 10, 12, 13, 23]), (3, [10, 11]), (4, [10, 12, 13, 14]), (5, [10, 12, 13, 14, 34]), (6, [10, 11]), (7, [10, 11])], own := atReg [] }
def a_conversion_Same : Ann := { lits := [], live := liveAt [(0, [2, 3]), (1, [3, 5, 6]), (2, [3, 5, 14]), (3, [4]), (4, [5, 6, 7]), (5, [4])], own := atReg [] }
def a_equating_Percentile : Ann := { lits := [59], live := liveAt [(0, [2, 3, 4]), (1, [2, 3, 4, 28]), (2, [4, 5]), (3, [2, 3, 4, 37]), (4, [4, 5]), (5, [2, 3, 4, 6, 7]), (6, [2, 3, 4, 6, 7, 8, 9]), (7, [2, 3, 4, 6, 7, 8, 9, 10]), (8, [2, 3, 4, 6, 7, 8, 9, 11]), (9, [2, 3, 4, 6, 7, 8, 9, 11, 12, 13]), (10, [2, 3, 4, 6, 7, 8, 9, 11, 12, 13, 71]), (11, [2, 3, 4, 6, 7, 8, 9, 11, 12, 13, 14, 15]), (12, [2, 3, 4, 6, 7, 8, 9, 11, 12, 13, 14, 15, 16, 17]), (13, [2, 3, 4, 6, 7, 8, 9, 11, 12, 13, 14, 15, 16, 17, 94]), (14, [2, 3, 4, 6, 7, 8, 9, 11, 12, 13, 14, 15, 16, 17]), (15, [2, 3, 4, 6, 7, 8, 9, 11, 12, 13, 14, 15, 16, 17, 18, 19]), (16, [2, 3, 4, 6, 7, 8, 9, 11, 12, 13, 14, 15, 16, 17, 18, 19, 110]), (17, [4, 5]), (18, [2, 3, 4, 6, 7, 8, 9, 11, 12, 13, 14, 15, 18, 19, 20]), (19, [2, 3, 4, 6, 7, 8, 9, 11, 12, 13, 14, 15, 18, 19, 20, 122]), (20, [4, 5]), (21, [2, 3, 4, 6, 7, 8, 9, 11, 12, 13, 14, 15]), (22, [2, 3, 4, 6, 7, 8, 9, 11, 12, 13, 14, 15, 133]), (23, [2, 3, 4, 6, 7, 8, 9, 11, 12, 13, 14, 15]), (24, [2, 3, 4, 6, 7, 8, 9, 11, 12, 13, 138]), (25, [2, 3, 4, 6, 7, 8, 9, 11, 12, 13]), (26, [4, 5])], own := atReg [(8, [(11, 4, 53)]), (21, [(11, 4, 53)])] }
def a_conversion_Eval : Ann := { lits := [], live := liveAt [(0, [2, 3, 4]), (1, [2, 3, 4, 13]), (2, [4, 5]), (3, [4, 5])], own := atReg [] }
def a_equating_Mean : Ann := { lits := [], live := liveAt [(0, [2, 3, 4]), (1, [4, 6, 7, 8]), (2, [4, 6, 7, 8, 17]), (3, [4, 5]), (4, [4, 5])], own := atReg [] }
def a_mark_Dice_Next : Ann := { lits := [], live := liveAt [(0, [0, 1]), (1, [0, 1, 19]), (2, [4]), (3, [0, 1, 5]), (4, [1, 5]), (5, [1, 5, 40]), (6, [5]), (7, [4])], own := atReg [] }
def a_mark_Dice_Pick : Ann := { lits := [], live := liveAt [(0, [0, 1]), (1, [4])], own := atReg [] }
def a_ratio_Valid : Ann := { lits := [], live := liveAt [(0, [1]), (1, [1, 20]), (2, [2]), (3, [2])], own := atReg [] }
def a_ratio_Add : Ann := { lits := [], live := liveAt [(0, [2, 3, 4]), (1, [2, 3, 4, 18]), (2, [4, 5]), (3, [2, 3, 4, 6, 7]), (4, [2, 3, 4, 6, 7, 8]), (5, [4, 6, 7, 8, 9]), (6, [4, 6, 7, 8, 9, 10]), (7, [4, 5])], own := atReg [] }
def a_conversion_whole : Ann := { lits := [], live := liveAt [(0, [0, 2]), (1, [2])], own := atReg [] }
def a_equating_Linear : Ann := { lits := [], live := liveAt [(0, [2, 3, 4]), (1, [2, 3, 4, 6, 7, 8]), (2, [2, 3, 4, 6, 7, 8, 20]), (3, [4, 5]), (4, [2, 3, 4, 6, 7, 30]), (5, [4, 5]), (6, [4, 6, 7, 8, 9, 10]), (7, [4, 6, 7, 8, 9, 10, 40]), (8, [4, 5]), (9, [4, 8, 9, 10, 11]), (10, [4, 8, 9, 10, 11, 50]), (11, [4, 5]), (12, [4, 5])], own := atReg [] }
def a_conversion_Compose : Ann := { lits := [], live := liveAt [(0, [2, 3, 4]), (1, [2, 3, 4, 27]), (2, [4, 5]), (3, [2, 3, 4, 6]), (4, [2, 3, 4, 6, 30, 31, 32]), (5, [2, 3, 4, 6, 30, 31, 32, 33]), (6, [2, 3, 4, 6, 8, 30, 31, 32]), (7, [2, 3, 4, 6, 30, 31, 32]), (8, [2, 3, 4, 6, 30, 31, 32]), (9, [2, 3, 4, 6, 9]), (10, [2, 3, 4, 6, 9, 46, 47, 48]), (11, [2, 3, 4, 6, 9, 46, 47, 48, 49]), (12, [2, 3, 4, 6, 9, 11, 46, 47, 48]), (13, [2, 3, 4, 6, 9, 12, 13, 46, 47, 48]), (14, [2, 3, 4, 6, 9, 12, 13, 46, 47, 48, 60]), (15, [4, 5]), (16, [2, 3, 4, 6, 9, 46, 47, 48]), (17, [2, 3, 4, 6, 9, 46, 47, 48]), (18, [2, 3, 4, 6]), (19, [2, 3, 4, 6]), (20, [2, 3, 4, 6, 14]), (21, [2, 3, 4, 14, 75, 76, 77]), (22, [2, 3, 4, 14, 75, 76, 77, 78]), (23, [2, 3, 4, 14, 15, 16, 75, 76, 77]), (24, [2, 3, 4, 14, 15, 16, 17, 18, 75, 76, 77]), (25, [2, 3, 4, 14, 15, 16, 17, 18, 75, 76, 77, 90]), (26, [4, 5]), (27, [2, 3, 4, 14, 15, 16, 18, 19, 75, 76, 77]), (28, [2, 3, 4, 14, 15, 16, 18, 19, 75, 76, 77, 101]), (29, [4, 5]), (30, [2, 3, 4, 14, 75, 76, 77]), (31, [2, 3, 4, 14, 75, 76, 77]), (32, [4, 5])], own := atReg [(3, [(6, 2, 37)]), (7, [(6, 2, 37)]), (16, [(6, 2, 37)]), (19, [(6, 2, 37)])] }
def a_conversion_Normal : Ann := { lits := [], live := liveAt [(0, [1, 2]), (1, [1, 2, 6]), (2, [2, 3]), (3, [2, 3])], own := atReg [] }
def a_slices_Equal_api_Point_api_Point : Ann := { lits := [], live := liveAt [(0, [0, 1]), (1, [0, 1, 10]), (2, [4]), (3, [0, 1, 12, 13]), (4, [0, 1, 12, 13, 14]), (5, [0, 1, 5, 12, 13]), (6, [0, 1, 12, 13, 24]), (7, [4]), (8, [0, 1, 12, 13]), (9, [4])], own := atReg [] }
def a_distribution_Valid : Ann := { lits := [], live := liveAt [(0, [1]), (1, [1, 15]), (2, [2]), (3, [1, 3]), (4, [3, 17, 18, 19]), (5, [3, 17, 18, 19, 20]), (6, [3, 5, 17, 18, 19]), (7, [3, 5, 17, 18, 19, 28]), (8, [2]), (9, [3, 17, 18, 19]), (10, [3, 17, 18, 19]), (11, [2])], own := atReg [] }
def a_slices_Contains_int_int : Ann := { lits := [], live := liveAt [(0, [0, 1]), (1, [4])], own := atReg [] }
def a_equating_sums : Ann := { lits := [6], live := liveAt [(0, [1]), (1, [1, 3]), (2, [3, 8, 9, 10]), (3, [3, 8, 9, 10, 11]), (4, [3, 4, 5, 8, 9, 10]), (5, [3, 8, 9, 10]), (6, [3, 8, 9, 10]), (7, [2])], own := atReg [(1, [(3, 1, 3)]), (5, [(3, 1, 3)])] }
def a_equating_number : Ann := { lits := [], live := liveAt [(0, [0, 1, 2, 3, 8]), (1, [0, 1, 2, 3, 8, 10]), (2, [0, 1, 2, 3, 8, 10, 11, 12]), (3, [0, 1, 2, 3, 8, 10, 11, 12, 28]), (4, [8, 9]), (5, [8, 11, 12, 13]), (6, [8, 11, 12, 13, 58]), (7, [8, 9]), (8, [8, 9])], own := atReg [] }
def a_conversion_Valid : Ann := { lits := [], live := liveAt [(0, [1]), (1, [2])], own := atReg [] }
def a_conversion_eval : Ann := { lits := [], live := liveAt [(0, [2, 3, 4]), (1, [2, 3, 4, 6]), (2, [2, 3, 4, 7]), (3, [3, 4, 8, 9]), (4, [3, 4, 8, 9, 10]), (5, [3, 4, 8, 10, 11]), (6, [4, 10, 12]), (7, [4, 5])], own := atReg [] }
def a_equating_both : Ann := { lits := [], live := liveAt [(0, [2, 3, 4, 6, 7]), (1, [2, 3, 4, 6, 7, 16]), (2, [6, 7, 8]), (3, [2, 3, 4, 6, 7, 26]), (4, [6, 7, 8]), (5, [2, 4, 6, 7, 8]), (6, [2, 4, 6, 7, 8, 36]), (7, [6, 7, 8]), (8, [6, 7, 8]), (9, [6, 7, 8, 47]), (10, [6, 7, 8]), (11, [6, 7, 8])], own := atReg [] }
def a_distribution_Mean : Ann := { lits := [], live := liveAt [(0, [1, 2]), (1, [1, 2, 4, 5]), (2, [1, 2, 4, 5, 12]), (3, [2, 3]), (4, [2, 3])], own := atReg [] }
def a_equating_through : Ann := { lits := [], live := liveAt [(0, [3, 4, 5, 6]), (1, [3, 5, 6, 8, 9]), (2, [3, 5, 6, 8, 9, 18]), (3, [6, 7]), (4, [3, 6, 9, 10]), (5, [3, 6, 9, 10, 28]), (6, [6, 7]), (7, [6, 7])], own := atReg [] }
def a_ratio_gcd : Ann := { lits := [], live := liveAt [(0, [0, 1]), (1, [0, 1, 6]), (2, [0, 1]), (3, [4])], own := atReg [] }
def a_ratio_magnitude : Ann := { lits := [], live := liveAt [(0, [0]), (1, [0, 4]), (2, [2]), (3, [2])], own := atReg [] }
def a_ratio_signedProduct : Ann := { lits := [], live := liveAt [(0, [0, 1, 4]), (1, [4])], own := atReg [] }
def a_ratio_signed_plus : Ann := { lits := [], live := liveAt [(0, [2, 3, 4]), (1, [2, 3, 4, 9]), (2, [4]), (3, [2, 3, 4, 23]), (4, [4]), (5, [4])], own := atReg [] }
def a_ratio_wide_mod : Ann := { lits := [], live := liveAt [(0, [1, 2]), (1, [4])], own := atReg [] }
def a_ratio_fitted : Ann := { lits := [], live := liveAt [(0, [0, 4, 5, 6]), (1, [0, 4, 5, 6, 26]), (2, [6, 7]), (3, [0, 5, 6, 8]), (4, [5, 6, 8, 31]), (5, [5, 6, 8]), (6, [6, 7])], own := atReg [] }
def a_ratio_wide_over : Ann := { lits := [], live := liveAt [(0, [1, 2, 4]), (1, [1, 2, 4, 5, 6]), (2, [4, 5, 7]), (3, [4])], own := atReg [] }
def a_ratio_product : Ann := { lits := [], live := liveAt [(0, [0, 1, 4]), (1, [4, 5, 6]), (2, [4])], own := atReg [] }
def a_distribution_Deviation : Ann := { lits := [], live := liveAt [(0, [1, 2]), (1, [1, 2, 4, 5]), (2, [1, 2, 4, 5, 17]), (3, [2, 3]), (4, [1, 2, 4, 6, 7]), (5, [2, 4, 6, 7, 23, 24, 25]), (6, [2, 4, 6, 7, 23, 24, 25, 26]), (7, [2, 4, 6, 7, 8, 9, 23, 24, 25]), (8, [2, 4, 6, 7, 9, 10, 23, 24, 25]), (9, [2, 4, 6, 7, 23, 24, 25]), (10, [2, 4, 6, 7, 23, 24, 25]), (11, [2, 3])], own := atReg [] }
def a_ratio_Div : Ann := { lits := [], live := liveAt [(0, [2, 3, 4]), (1, [2, 3, 4, 14]), (2, [4, 5]), (3, [2, 3, 4, 18]), (4, [4, 5]), (5, [2, 3, 4, 6]), (6, [2, 3, 4, 6, 27]), (7, [2, 4, 6]), (8, [4, 5])], own := atReg [] }
def a_conversion_exchanged : Ann := { lits := [], live := liveAt [(0, [0]), (1, [0, 3]), (2, [3, 9, 10, 11]), (3, [3, 9, 10, 11, 12]), (4, [3, 4, 5, 9, 10, 11]), (5, [3, 9, 10, 11]), (6, [3, 9, 10, 11]), (7, [2])], own := atReg [] }
def a_slices_SortFunc_api_Ratio_api_Ratio : Ann := { lits := [], live := liveAt [(0, [0, 1, 4]), (1, [])], own := atReg [] }
def a_ratio_Compare : Ann := { lits := [], live := liveAt [(0, [2, 3]), (1, [2, 3, 14]), (2, [4]), (3, [5, 6]), (4, [5, 6, 27]), (5, [4]), (6, [5, 6, 39]), (7, [4]), (8, [5, 6, 42]), (9, [4]), (10, [4])], own := atReg [] }
def a_slices_Compact_api_Ratio_api_Ratio : Ann := { lits := [], live := liveAt [(0, [0]), (1, [0, 8]), (2, [2]), (3, [0, 3]), (4, [0, 3, 13]), (5, [0, 3]), (6, [0, 3, 25]), (7, [0, 3, 4]), (8, [0, 3, 4, 5]), (9, [0, 3, 4, 5, 32]), (10, [0, 3, 4, 5]), (11, [0, 3, 4, 5, 44]), (12, [0, 3, 4, 5]), (13, [0, 3, 4, 5]), (14, [0, 3]), (15, [2]), (16, [2])], own := atReg [] }
def a_conversion_normal : Ann := { lits := [72], live := liveAt [(0, [0, 2]), (1, [0, 2, 4, 5]), (2, [0, 2, 4, 5, 17]), (3, [2, 3]), (4, [0, 2, 4, 6]), (5, [0, 2, 4, 6, 7, 8]), (6, [0, 2, 4, 6, 7, 8, 24]), (7, [0, 2, 4, 6, 7, 8]), (8, [0, 2, 4, 6, 7, 8]), (9, [0, 2, 4, 6, 7, 8, 42]), (10, [2, 3]), (11, [0, 2, 4, 5, 8, 9]), (12, [0, 2, 4, 5, 8, 9, 53]), (13, [2, 3]), (14, [2, 4, 5, 9, 10]), (15, [2, 4, 5, 9, 10, 63]), (16, [2, 3]), (17, [2, 4, 9, 10, 69]), (18, [2, 3]), (19, [2, 3])], own := atReg [] }
def a_slices_Index_int_int : Ann := { lits := [], live := liveAt [(0, [0, 1]), (1, [0, 1, 7, 8]), (2, [0, 1, 7, 8, 9]), (3, [0, 1, 5, 7, 8]), (4, [0, 1, 5, 7, 8, 16]), (5, [4]), (6, [0, 1, 7, 8]), (7, [4])], own := atReg [] }
def a_ratio_New : Ann := { lits := [], live := liveAt [(0, [0, 1, 4]), (1, [0, 1, 4, 8]), (2, [4, 5]), (3, [0, 1, 4, 6]), (4, [4, 5])], own := atReg [] }
def a_conversion_ascending : Ann := { lits := [], live := liveAt [(0, [0]), (1, [0, 5, 6, 7]), (2, [0, 5, 6, 7, 8]), (3, [0, 3, 4, 5, 6, 7]), (4, [0, 3, 4, 5, 6, 7, 21]), (5, [2]), (6, [0, 5, 6, 7, 47]), (7, [2]), (8, [0, 5, 6, 7]), (9, [2])], own := atReg [] }
def a_sort_Search : Ann := { lits := [], live := liveAt [(0, [0, 1]), (1, [1, 5, 6]), (2, [1, 5, 6, 11]), (3, [1, 5, 6, 7]), (4, [1, 5, 6, 7, 21]), (5, [1, 5, 6]), (6, [1, 5, 6]), (7, [4])], own := atReg [] }
def a_conversion_eval_1 : Ann := { lits := [], live := liveAt [(0, [0, 1, 2]), (1, [4])], own := atReg [] }
def a_conversion_steps_slope : Ann := { lits := [], live := liveAt [(0, [0, 4, 5, 6]), (1, [6])], own := atReg [] }
def a_conversion_steps_do : Ann := { lits := [], live := liveAt [(0, [0, 1, 6, 7, 8]), (1, [0, 1, 6, 7, 8, 15]), (2, [8]), (3, [0, 8, 9, 10]), (4, [8, 9]), (5, [8])], own := atReg [] }
def a_ratio_Mul : Ann := { lits := [], live := liveAt [(0, [2, 3, 4]), (1, [2, 3, 4, 20]), (2, [4, 5]), (3, [2, 3, 4, 6, 7]), (4, [2, 3, 4, 6, 7, 8, 9]), (5, [2, 3, 4, 6, 7, 8, 9, 10, 11]), (6, [4, 6, 7, 8, 9, 10, 11, 12]), (7, [4, 5])], own := atReg [] }
def a_ratio_Sub : Ann := { lits := [], live := liveAt [(0, [2, 3, 4]), (1, [2, 3, 4, 13]), (2, [4, 5]), (3, [4, 5])], own := atReg [] }
def a_distribution_Count : Ann := { lits := [], live := liveAt [(0, [1]), (1, [2])], own := atReg [] }
def a_distribution_check : Ann := { lits := [], live := liveAt [(0, [1]), (1, [1, 7]), (2, [2, 3]), (3, [4]), (4, [4, 11]), (5, [2, 3]), (6, [2, 3])], own := atReg [] }
def a_distribution_sumOfScores : Ann := { lits := [], live := liveAt [(0, [1]), (1, [1, 3]), (2, [3, 7, 8, 9]), (3, [3, 7, 8, 9, 10]), (4, [3, 4, 5, 7, 8, 9]), (5, [3, 7, 8, 9]), (6, [3, 7, 8, 9]), (7, [2])], own := atReg [] }
def a_ratio_wide_plus : Ann := { lits := [], live := liveAt [(0, [2, 3, 4]), (1, [2, 3, 4, 5, 6]), (2, [4, 5, 7]), (3, [4])], own := atReg [] }
def a_ratio_wide_compare : Ann := { lits := [], live := liveAt [(0, [2, 3]), (1, [2, 3, 5]), (2, [2, 3, 5, 12]), (3, [4]), (4, [4])], own := atReg [] }
def a_ratio_wide_minus : Ann := { lits := [], live := liveAt [(0, [2, 3, 4]), (1, [2, 3, 4, 5, 6]), (2, [4, 5, 7]), (3, [4])], own := atReg [] }
def a_bits_Rem64 : Ann := { lits := [], live := liveAt [(0, [0, 1, 2]), (1, [8]), (2, [6])], own := atReg [] }
def a_bits_Div64 : Ann := { lits := [], live := liveAt [(0, [0, 1, 2]), (1, [0, 1, 2, 20]), (2, [0, 1, 2]), (3, [0, 1, 2, 24]), (4, [0, 1, 2]), (5, [0, 1, 2, 27]), (6, [6, 7]), (7, [0, 1, 2, 8]), (8, [0, 1, 2, 8]), (9, [0, 1, 2, 8, 9]), (10, [0, 1, 2, 8, 9, 10]), (11, [1, 2, 8, 9, 10, 11]), (12, [2, 8, 9, 10, 11, 12]), (13, [2, 8, 9, 10, 11, 12, 13]), (14, [2, 8, 9, 10, 11, 13, 14]), (15, [2, 8, 9, 10, 11, 13, 14, 15]), (16, [2, 8, 9, 10, 11, 13, 14, 15, 16]), (17, [2, 8, 9, 10, 11, 13, 14, 15, 16, 78]), (18, [2, 8, 9, 10, 11, 13, 14, 15, 16]), (19, [2, 8, 9, 10, 11, 13, 14, 15, 16]), (20, [2, 8, 9, 10, 11, 13, 14, 15, 16, 85]), (21, [2, 8, 9, 10, 14, 15, 17]), (22, [2, 8, 9, 10, 14, 15, 17, 18]), (23, [2, 8, 9, 10, 14, 15, 16, 17, 18]), (24, [2, 8, 9, 10, 14, 15, 16, 17, 18, 113]), (25, [2, 8, 9, 10, 14, 15, 16, 17, 18]), (26, [2, 8, 9, 10, 14, 15, 16, 17, 18]), (27, [2, 8, 9, 10, 14, 15, 16, 17, 18, 120]), (28, [6, 7])], own := atReg [] }
def a_bits_Mul64 : Ann := { lits := [], live := liveAt [(0, [0, 1]), (1, [0, 1, 6]), (2, [0, 1, 6, 7]), (3, [0, 1, 6, 7, 8]), (4, [0, 1, 6, 7, 8, 9]), (5, [0, 1, 6, 7, 8, 9, 10]), (6, [0, 1, 6, 7, 9, 11]), (7, [0, 1, 6, 7, 9, 11, 12]), (8, [0, 1, 6, 7, 9, 12, 13]), (9, [0, 1, 7, 9, 12, 13]), (10, [0, 1, 4]), (11, [4, 5])], own := atReg [] }
def a_slices_pdqsortCmpFunc_api_Ratio : Ann := { lits := [], live := liveAt [(0, [0, 1, 2, 3, 4, 10]), (1, [0, 1, 2, 3, 4, 10, 11]), (2, [0, 1, 2, 3, 4, 10, 11, 12]), (3, [0, 1, 2, 3, 4, 10, 11, 12, 25]), (4, []), (5, [0, 1, 2, 3, 4, 10, 11, 12, 32]), (6, []), (7, [0, 1, 2, 3, 4, 10, 11, 12, 39]), (8, [0, 1, 2, 3, 4, 10, 11, 12]), (9, [0, 1, 2, 3, 4, 10, 11, 12]), (10, [0, 1, 2, 3, 4, 10, 11, 12, 13, 14]), (11, [0, 1, 2, 3, 4, 10, 11, 12, 13, 14, 56]), (12, [0, 1, 2, 3, 4, 10, 11, 12, 13]), (13, [0, 1, 2, 3, 4, 10, 11, 12, 13]), (14, [0, 1, 2, 3, 4, 10, 11, 12, 13, 14]), (15, [0, 1, 2, 3, 4, 10, 11, 12, 13, 75]), (16, [0, 1, 2, 3, 4, 10, 11, 12, 13, 80]), (17, [0, 1, 2, 3, 4, 10, 11, 12, 13, 97]), (18, [0, 2, 3, 4, 10, 11, 15]), (19, [0, 1, 2, 3, 4, 10, 11]), (20, [0, 1, 2, 3, 4, 12, 16, 17]), (21, [0, 1, 2, 3, 4, 11, 12, 16]), (22, [0, 1, 2, 3, 4, 11, 12, 16, 18, 19]), (23, [0, 1, 2, 3, 4, 11, 16, 18, 19, 20]), (24, [0, 1, 2, 3, 4, 11, 16, 18, 19, 20, 125]), (25, [0, 1, 2, 3, 4, 10, 11, 16]), (26, [0, 2, 3, 4, 10, 11, 16]), (27, [0, 1, 2, 3, 4, 10, 11]), (28, [0, 1, 2, 3, 4, 10, 11, 16]), (29, [0, 1, 3, 4, 10, 11, 16]), (30, [0, 1, 2, 3, 4, 10, 11])], own := atReg [] }
def a_bits_Len : Ann := { lits := [], live := liveAt [(0, [0]), (1, [2]), (2, [2])], own := atReg [] }
def a_conversion_bends : Ann := { lits := [], live := liveAt [(0, [0]), (1, [0, 4]), (2, [0, 4, 5]), (3, [0, 4, 5, 6]), (4, [0, 4, 5, 6, 7]), (5, [0, 4, 5, 6, 7, 20]), (6, [0, 4, 5, 6, 7]), (7, [0, 4, 5, 6, 7, 8]), (8, [0, 4, 5, 6, 7, 8, 35]), (9, [0, 4, 5, 6, 7, 8]), (10, [0, 4, 5, 6, 7]), (11, [4, 5, 46]), (12, [2, 3]), (13, [2, 3])], own := atReg [(1, [(4, 4, 53)]), (9, [(4, 4, 53)])] }
def a_conversion_pointAt : Ann := { lits := [], live := liveAt [(0, [0, 3, 4]), (1, [3, 4, 6, 7]), (2, [3, 4, 6, 7, 15]), (3, [4, 5]), (4, [4, 5])], own := atReg [] }
def a_ratio_reduced : Ann := { lits := [], live := liveAt [(0, [1, 2, 4]), (1, [1, 2, 4, 6]), (2, [4, 5])], own := atReg [] }
def a_ratio_Less : Ann := { lits := [], live := liveAt [(0, [2, 3]), (1, [4])], own := atReg [] }
def a_distribution_Below : Ann := { lits := [], live := liveAt [(0, [1, 2]), (1, [1, 2, 9]), (2, [4]), (3, [1, 2, 5]), (4, [1, 2, 5, 6]), (5, [1, 2, 5, 6, 19]), (6, [1, 2, 5, 6]), (7, [1, 2, 5, 6]), (8, [4])], own := atReg [] }
def a_cmp_Compare_uint64 : Ann := { lits := [], live := liveAt [(0, [0, 1]), (1, [0, 1, 5]), (2, [0, 1, 5, 6]), (3, [0, 1, 6, 11]), (4, [12]), (5, [4]), (6, [4]), (7, [0, 1, 13]), (8, [4]), (9, [0, 1, 16]), (10, [4]), (11, [19]), (12, [4]), (13, [4])], own := atReg [] }
def a_bits_LeadingZeros64 : Ann := { lits := [], live := liveAt [(0, [0]), (1, [2])], own := atReg [] }
def a_slices_insertionSortCmpFunc_api_Ratio : Ann := { lits := [], live := liveAt [(0, [0, 1, 2, 3, 8]), (1, [0, 1, 2, 3, 8, 14]), (2, [0, 1, 2, 3, 8]), (3, [0, 1, 2, 3, 8, 9]), (4, [0, 1, 2, 3, 8, 9, 34]), (5, [0, 1, 2, 3, 8, 9]), (6, [0, 1, 2, 3, 8, 9])], own := atReg [] }
def a_slices_heapSortCmpFunc_api_Ratio : Ann := { lits := [], live := liveAt [(0, [0, 1, 2, 3, 8]), (1, [0, 1, 2, 3, 8, 9]), (2, [0, 3, 8, 9, 10]), (3, [0, 3, 8, 9, 10, 11]), (4, [0, 3, 8, 9, 10, 11, 21]), (5, [0, 3, 8, 9, 10, 11]), (6, [0, 3, 8, 9, 10, 11]), (7, [0, 3, 8, 9, 12]), (8, [0, 3, 8, 9, 12, 33]), (9, [0, 3, 8, 9, 12]), (10, [0, 3, 8, 9, 12]), (11, [0, 3, 8, 9, 12])], own := atReg [] }
def a_slices_breakPatternsCmpFunc_api_Ratio : Ann := { lits := [], live := liveAt [(0, [0, 1, 8]), (1, [0, 1, 8, 17]), (2, [0, 1, 8, 9]), (3, [0, 1, 8, 9, 10]), (4, [0, 1, 8, 9, 10, 11]), (5, [0, 1, 8, 9, 10, 11, 35]), (6, [0, 1, 8, 9, 10, 11]), (7, [0, 1, 8, 9, 10, 11, 12]), (8, [0, 1, 8, 9, 10, 11, 12, 45]), (9, [0, 1, 8, 9, 10, 11, 12]), (10, [0, 1, 8, 9, 10, 11])], own := atReg [] }
def a_slices_choosePivotCmpFunc_api_Ratio : Ann := { lits := [], live := liveAt [(0, [0, 1, 2, 3]), (1, [0, 1, 3, 10]), (2, [0, 1, 3, 10, 11]), (3, [0, 1, 3, 10, 11, 12]), (4, [0, 1, 3, 10, 11, 12, 13]), (5, [0, 3, 10, 11, 12, 13, 14]), (6, [0, 3, 10, 11, 12, 13, 14, 34]), (7, [0, 3, 11, 12, 13, 14, 36]), (8, [0, 3, 11, 12, 13, 14]), (9, [0, 3, 11, 12, 13, 14]), (10, [0, 3, 11, 12, 13, 14]), (11, [11, 13]), (12, [13, 55]), (13, [8, 9]), (14, [13, 55, 57]), (15, [8, 9]), (16, [13, 60]), (17, [8, 9])], own := atReg [] }
def a_slices_reverseRangeCmpFunc_api_Ratio : Ann := { lits := [], live := liveAt [(0, [0, 2, 8]), (1, [0, 8, 9]), (2, [0, 8, 9, 15]), (3, [0, 8, 9]), (4, [0, 8, 9]), (5, [0, 8, 9])], own := atReg [] }
def a_slices_partialInsertionSortCmpFunc_api_Ratio : Ann := { lits := [], live := liveAt [(0, [0, 1, 2, 3]), (1, [0, 1, 2, 3, 9]), (2, [0, 1, 2, 3, 9, 10]), (3, [0, 1, 2, 3, 9, 10, 16]), (4, [0, 1, 2, 3, 9, 10]), (5, [0, 1, 2, 3, 9, 10, 36]), (6, [0, 1, 2, 3, 9, 10]), (7, [0, 1, 2, 3, 9, 10, 41]), (8, [8]), (9, [0, 1, 2, 3, 9, 10, 45]), (10, [8]), (11, [0, 1, 2, 3, 9, 10]), (12, [0, 1, 2, 3, 9, 10, 65]), (13, [0, 1, 2, 3, 9, 10, 11]), (14, [0, 1, 2, 3, 9, 10, 11, 69]), (15, [0, 1, 2, 3, 9, 10, 11]), (16, [0, 1, 2, 3, 9, 10, 11, 84]), (17, [0, 1, 2, 3, 9, 10, 11]), (18, [0, 1, 2, 3, 9, 10, 104]), (19, [0, 1, 2, 3, 9, 10, 12]), (20, [0, 1, 2, 3, 9, 10, 12, 109]), (21, [0, 1, 2, 3, 9, 10, 12]), (22, [0, 1, 2, 3, 9, 10, 12, 124]), (23, [0, 1, 2, 3, 9, 10, 12]), (24, [8])], own := atReg [] }
def a_slices_partitionEqualCmpFunc_api_Ratio : Ann := { lits := [], live := liveAt [(0, [0, 1, 2, 3, 4]), (1, [0, 1, 2, 4]), (2, [0, 1, 4, 11, 12]), (3, [0, 1, 4, 11, 12, 47]), (4, [0, 1, 4, 11, 12]), (5, [0, 1, 4, 11, 12, 65]), (6, [0, 1, 4, 11, 12]), (7, [0, 1, 4, 11, 12, 70]), (8, [0, 1, 4, 11, 12]), (9, [0, 1, 4, 11, 12]), (10, [0, 1, 4, 11, 12]), (11, [10])], own := atReg [] }
def a_slices_partitionCmpFunc_api_Ratio : Ann := { lits := [], live := liveAt [(0, [0, 1, 2, 3, 4]), (1, [0, 1, 2, 4]), (2, [0, 1, 4, 12, 13]), (3, [0, 1, 4, 12, 13, 47]), (4, [0, 1, 4, 12, 13]), (5, [0, 1, 4, 12, 13, 66]), (6, [0, 1, 4, 12, 13]), (7, [0, 1, 4, 12, 13, 71]), (8, [13]), (9, [10, 11]), (10, [0, 1, 4, 12, 13]), (11, [0, 1, 4, 12, 13]), (12, [0, 1, 4, 12, 13]), (13, [0, 1, 4, 12, 13, 120]), (14, [0, 1, 4, 12, 13]), (15, [0, 1, 4, 12, 13, 139]), (16, [0, 1, 4, 12, 13]), (17, [0, 1, 4, 12, 13, 144]), (18, [0, 1, 4, 12, 13]), (19, [0, 1, 4, 12, 13]), (20, [0, 1, 4, 12, 13]), (21, [13]), (22, [10, 11])], own := atReg [] }
def a_bits_Len32 : Ann := { lits := [], live := liveAt [(0, [0, 2]), (1, [0, 2, 4]), (2, [0]), (3, [0, 2]), (4, [0, 2, 8]), (5, [0, 2]), (6, [0, 2]), (7, [2])], own := atReg [] }
def a_bits_Len64 : Ann := { lits := [], live := liveAt [(0, [0, 2]), (1, [0, 2, 4]), (2, [0]), (3, [0, 2]), (4, [0, 2, 8]), (5, [0, 2]), (6, [0, 2]), (7, [0, 2, 14]), (8, [0, 2]), (9, [0, 2]), (10, [2])], own := atReg [] }
def a_cmp_isNaN_uint64 : Ann := { lits := [], live := liveAt [(0, [0]), (1, [2])], own := atReg [] }
def a_slices_siftDownCmpFunc_api_Ratio : Ann := { lits := [], live := liveAt [(0, [0, 2, 3, 4, 10]), (1, [0, 2, 3, 4, 10, 11]), (2, [0, 2, 3, 4, 10, 11, 18]), (3, [0, 2, 3, 4, 10, 11, 40]), (4, [0, 2, 3, 4, 10, 11]), (5, [0, 2, 3, 4, 10, 11, 58]), (6, [0, 2, 3, 4, 11]), (7, [0, 2, 3, 4, 10])], own := atReg [] }
def a_slices_nextPowerOfTwo : Ann := { lits := [], live := liveAt [(0, [0]), (1, [2])], own := atReg [] }
def a_slices_xorshift_Next : Ann := { lits := [], live := liveAt [(0, [0]), (1, [0]), (2, [0]), (3, [0]), (4, [2])], own := atReg [] }
def a_slices_medianAdjacentCmpFunc_api_Ratio : Ann := { lits := [], live := liveAt [(0, [0, 1, 2, 3]), (1, [8])], own := atReg [] }
def a_slices_medianCmpFunc_api_Ratio : Ann := { lits := [], live := liveAt [(0, [0, 1, 2, 3, 4, 5]), (1, [0, 1, 2, 3, 4, 5]), (2, [0, 1, 2, 4, 5]), (3, [2]), (4, [12])], own := atReg [] }
def a_slices_order2CmpFunc_api_Ratio : Ann := { lits := [], live := liveAt [(0, [0, 1, 2, 3, 4]), (1, [1, 2, 3, 22]), (2, [1, 2]), (3, [10, 11]), (4, [10, 11])], own := atReg [] }
def annTab : List Ann := [{ lits := [], live := fun _ => none, own := fun _ => [] }, { lits := [], live := fun _ => none, own := fun _ => [] }, { lits := [], live := fun _ => none, own := fun _ => [] }, a_law34_EquatingSelf, a_mark_Light, a_law34_sane, a_mark_Roll, a_mark_Dice_Distribution, a_conversion_Line, a_law34_whole, a_equating_Equate, a_equating_Chain, a_conversion_Same, a_equating_Percentile, a_conversion_Eval, a_equating_Mean, a_mark_Dice_Next, a_mark_Dice_Pick, a_ratio_Valid, a_ratio_Add, a_conversion_whole, a_equating_Linear, a_conversion_Compose, a_conversion_Normal, a_slices_Equal_api_Point_api_Point, a_distribution_Valid, a_slices_Contains_int_int, a_equating_sums, a_equating_number, a_conversion_Valid, a_conversion_eval, a_equating_both, a_distribution_Mean, a_equating_through, a_ratio_gcd, a_ratio_magnitude, a_ratio_signedProduct, a_ratio_signed_plus, a_ratio_wide_mod, a_ratio_fitted, a_ratio_wide_over, a_ratio_product, a_distribution_Deviation, a_ratio_Div, a_conversion_exchanged, a_slices_SortFunc_api_Ratio_api_Ratio, a_ratio_Compare, a_slices_Compact_api_Ratio_api_Ratio, a_conversion_normal, a_slices_Index_int_int, a_ratio_New, a_conversion_ascending, a_sort_Search, a_conversion_eval_1, a_conversion_steps_slope, a_conversion_steps_do, a_ratio_Mul, a_ratio_Sub, a_distribution_Count, a_distribution_check, a_distribution_sumOfScores, a_ratio_wide_plus, a_ratio_wide_compare, a_ratio_wide_minus, a_bits_Rem64, a_bits_Div64, a_bits_Mul64, a_slices_pdqsortCmpFunc_api_Ratio, a_bits_Len, a_conversion_bends, a_conversion_pointAt, a_ratio_reduced, a_ratio_Less, a_distribution_Below, { lits := [], live := fun _ => none, own := fun _ => [] }, a_cmp_Compare_uint64, { lits := [], live := fun _ => none, own := fun _ => [] }, a_bits_LeadingZeros64, a_slices_insertionSortCmpFunc_api_Ratio, a_slices_heapSortCmpFunc_api_Ratio, a_slices_breakPatternsCmpFunc_api_Ratio, a_slices_choosePivotCmpFunc_api_Ratio, a_slices_reverseRangeCmpFunc_api_Ratio, a_slices_partialInsertionSortCmpFunc_api_Ratio, a_slices_partitionEqualCmpFunc_api_Ratio, a_slices_partitionCmpFunc_api_Ratio, a_bits_Len32, a_bits_Len64, a_cmp_isNaN_uint64, a_slices_siftDownCmpFunc_api_Ratio, a_slices_nextPowerOfTwo, a_slices_xorshift_Next, a_slices_medianAdjacentCmpFunc_api_Ratio, a_slices_medianCmpFunc_api_Ratio, a_slices_order2CmpFunc_api_Ratio, { lits := [], live := fun _ => none, own := fun _ => [] }, { lits := [], live := fun _ => none, own := fun _ => [] }, { lits := [], live := fun _ => none, own := fun _ => [] }, { lits := [], live := fun _ => none, own := fun _ => [] }, { lits := [], live := fun _ => none, own := fun _ => [] }, { lits := [], live := fun _ => none, own := fun _ => [] }, { lits := [], live := fun _ => none, own := fun _ => [] }, { lits := [], live := fun _ => none, own := fun _ => [] }, { lits := [], live := fun _ => none, own := fun _ => [] }, { lits := [], live := fun _ => none, own := fun _ => [] }, { lits := [], live := fun _ => none, own := fun _ => [] }, { lits := [], live := fun _ => none, own := fun _ => [] }, { lits := [], live := fun _ => none, own := fun _ => [] }, { lits := [], live := fun _ => none, own := fun _ => [] }, { lits := [], live := fun _ => none, own := fun _ => [] }, { lits := [], live := fun _ => none, own := fun _ => [] }, { lits := [], live := fun _ => none, own := fun _ => [] }, { lits := [], live := fun _ => none, own := fun _ => [] }]
def zA : AnnF := fun f => annTab.getD f { lits := [], live := fun _ => none, own := fun _ => [] }
noncomputable abbrev r_law34_EquatingSelf : RD := r1 vBool
noncomputable abbrev r_mark_Light : RD := r1 vBool
noncomputable abbrev r_law34_sane : RD := r1 vBool
noncomputable abbrev r_mark_Roll : RD := r1 (vNewp 2 ty_mark_Dice dGmarkDice)
noncomputable abbrev r_mark_Dice_Distribution : RD := r1M (vAgg dGDistribution) (mBox 1000 2 ty_mark_Dice dGmarkDice)
noncomputable abbrev r_conversion_Line : RD := rT (lCons (vAgg dGCurve) (lOne (vI .i64)))
noncomputable abbrev r_law34_whole : RD := r1 (vAgg dGRatio)
noncomputable abbrev r_equating_Equate : RD := rT (lCons (vAgg dGCurve) (lOne (vI .i64)))
noncomputable abbrev r_equating_Chain : RD := rT (lCons (vAgg dGCurve) (lOne (vI .i64)))
noncomputable abbrev r_conversion_Same : RD := r1 vBool
noncomputable abbrev r_equating_Percentile : RD := rT (lCons (vAgg dGCurve) (lOne (vI .i64)))
noncomputable abbrev r_conversion_Eval : RD := rT (lCons (vAgg dGRatio) (lOne (vI .i64)))
noncomputable abbrev r_equating_Mean : RD := rT (lCons (vAgg dGCurve) (lOne (vI .i64)))
noncomputable abbrev r_mark_Dice_Next : RD := r1M (vI .i64) (mBox 1000 2 ty_mark_Dice dGmarkDice)
noncomputable abbrev r_mark_Dice_Pick : RD := r1M (vI .i64) (mBox 1000 2 ty_mark_Dice dGmarkDice)
noncomputable abbrev r_ratio_Valid : RD := r1 vBool
noncomputable abbrev r_ratio_Add : RD := rT (lCons (vAgg dGRatio) (lOne (vI .i64)))
noncomputable abbrev r_conversion_whole : RD := r1 (vAgg dGRatio)
noncomputable abbrev r_equating_Linear : RD := rT (lCons (vAgg dGCurve) (lOne (vI .i64)))
noncomputable abbrev r_conversion_Compose : RD := rT (lCons (vAgg dGCurve) (lOne (vI .i64)))
noncomputable abbrev r_conversion_Normal : RD := rT (lCons (vAgg dGCurve) (lOne (vI .i64)))
noncomputable abbrev r_slices_Equal_api_Point_api_Point : RD := r1 vBool
noncomputable abbrev r_distribution_Valid : RD := r1 vBool
noncomputable abbrev r_slices_Contains_int_int : RD := r1 vBool
noncomputable abbrev r_equating_sums : RD := r1 (vNew 1 ty_i64_2 dI_i64)
noncomputable abbrev r_equating_number : RD := rT (lCons (vAgg dGRatio) (lOne (vI .i64)))
noncomputable abbrev r_conversion_Valid : RD := r1 vBool
noncomputable abbrev r_conversion_eval : RD := rT (lCons (vAgg dGRatio) (lOne (vI .i64)))
noncomputable abbrev r_equating_both : RD := rT (lCons (vAgg dGRatio) (lCons (vAgg dGRatio) (lOne (vI .i64))))
noncomputable abbrev r_distribution_Mean : RD := rT (lCons (vAgg dGRatio) (lOne (vI .i64)))
noncomputable abbrev r_equating_through : RD := rT (lCons (vAgg dGCurve) (lOne (vI .i64)))
noncomputable abbrev r_ratio_gcd : RD := r1 (vI .u64)
noncomputable abbrev r_ratio_magnitude : RD := r1 (vI .u64)
noncomputable abbrev r_ratio_signedProduct : RD := r1 (vAgg dGratioSigned)
noncomputable abbrev r_ratio_signed_plus : RD := r1 (vAgg dGratioSigned)
noncomputable abbrev r_ratio_wide_mod : RD := r1 (vI .u64)
noncomputable abbrev r_ratio_fitted : RD := rT (lCons (vAgg dGRatio) (lOne (vI .i64)))
noncomputable abbrev r_ratio_wide_over : RD := r1 (vAgg dGratioWide)
noncomputable abbrev r_ratio_product : RD := r1 (vAgg dGratioWide)
noncomputable abbrev r_distribution_Deviation : RD := rT (lCons (vAgg dGRatio) (lOne (vI .i64)))
noncomputable abbrev r_ratio_Div : RD := rT (lCons (vAgg dGRatio) (lOne (vI .i64)))
noncomputable abbrev r_conversion_exchanged : RD := r1 (vNew 4 ty_api_Point dGPoint)
noncomputable abbrev r_slices_SortFunc_api_Ratio_api_Ratio : RD := r0M (mRow 1000 2 ty_api_Ratio dGRatio)
noncomputable abbrev r_ratio_Compare : RD := r1 (vI .i64)
noncomputable abbrev r_slices_Compact_api_Ratio_api_Ratio : RD := r1M (vRow 1000 2) (mRow 1000 2 ty_api_Ratio dGRatio)
noncomputable abbrev r_conversion_normal : RD := rT (lCons (vAgg dGCurve) (lOne (vI .i64)))
noncomputable abbrev r_slices_Index_int_int : RD := r1 (vI .i64)
noncomputable abbrev r_ratio_New : RD := rT (lCons (vAgg dGRatio) (lOne (vI .i64)))
noncomputable abbrev r_conversion_ascending : RD := r1 vBool
noncomputable abbrev r_sort_Search : RD := r1 (vI .i64)
noncomputable abbrev r_conversion_eval_1 : RD := r1 vBool
noncomputable abbrev r_conversion_steps_slope : RD := r1M (vAgg dGRatio) (mBox 1000 1 ty_conversion_steps dGconversionSteps)
noncomputable abbrev r_conversion_steps_do : RD := r1M (vAgg dGRatio) (mBox 1000 1 ty_conversion_steps dGconversionSteps)
noncomputable abbrev r_ratio_Mul : RD := rT (lCons (vAgg dGRatio) (lOne (vI .i64)))
noncomputable abbrev r_ratio_Sub : RD := rT (lCons (vAgg dGRatio) (lOne (vI .i64)))
noncomputable abbrev r_distribution_Count : RD := r1 (vI .i64)
noncomputable abbrev r_distribution_check : RD := rT (lCons (vI .i64) (lOne (vI .i64)))
noncomputable abbrev r_distribution_sumOfScores : RD := r1 (vI .i64)
noncomputable abbrev r_ratio_wide_plus : RD := r1 (vAgg dGratioWide)
noncomputable abbrev r_ratio_wide_compare : RD := r1 (vI .i64)
noncomputable abbrev r_ratio_wide_minus : RD := r1 (vAgg dGratioWide)
noncomputable abbrev r_bits_Rem64 : RD := r1 (vI .u64)
noncomputable abbrev r_bits_Div64 : RD := rT (lCons (vI .u64) (lOne (vI .u64)))
noncomputable abbrev r_bits_Mul64 : RD := rT (lCons (vI .u64) (lOne (vI .u64)))
noncomputable abbrev r_slices_pdqsortCmpFunc_api_Ratio : RD := r0M (mRow 1000 2 ty_api_Ratio dGRatio)
noncomputable abbrev r_bits_Len : RD := r1 (vI .i64)
noncomputable abbrev r_conversion_bends : RD := rT (lCons (vSl 4 dGPoint) (lOne (vI .i64)))
noncomputable abbrev r_conversion_pointAt : RD := rT (lCons (vAgg dGPoint) (lOne (vI .i64)))
noncomputable abbrev r_ratio_reduced : RD := rT (lCons (vAgg dGRatio) (lOne (vI .i64)))
noncomputable abbrev r_ratio_Less : RD := r1 vBool
noncomputable abbrev r_distribution_Below : RD := r1 (vI .i64)
noncomputable abbrev r_cmp_Compare_uint64 : RD := r1 (vI .i64)
noncomputable abbrev r_bits_LeadingZeros64 : RD := r1 (vI .i64)
noncomputable abbrev r_slices_insertionSortCmpFunc_api_Ratio : RD := r0M (mRow 1000 2 ty_api_Ratio dGRatio)
noncomputable abbrev r_slices_heapSortCmpFunc_api_Ratio : RD := r0M (mRow 1000 2 ty_api_Ratio dGRatio)
noncomputable abbrev r_slices_breakPatternsCmpFunc_api_Ratio : RD := r0M (mRow 1000 2 ty_api_Ratio dGRatio)
noncomputable abbrev r_slices_choosePivotCmpFunc_api_Ratio : RD := rT (lCons (vI .i64) (lOne (vI .i64)))
noncomputable abbrev r_slices_reverseRangeCmpFunc_api_Ratio : RD := r0M (mRow 1000 2 ty_api_Ratio dGRatio)
noncomputable abbrev r_slices_partialInsertionSortCmpFunc_api_Ratio : RD := r1M vBool (mRow 1000 2 ty_api_Ratio dGRatio)
noncomputable abbrev r_slices_partitionEqualCmpFunc_api_Ratio : RD := r1M (vI .i64) (mRow 1000 2 ty_api_Ratio dGRatio)
noncomputable abbrev r_slices_partitionCmpFunc_api_Ratio : RD := rTM (lCons (vI .i64) (lOne vBool)) (mRow 1000 2 ty_api_Ratio dGRatio)
noncomputable abbrev r_bits_Len32 : RD := r1 (vI .i64)
noncomputable abbrev r_bits_Len64 : RD := r1 (vI .i64)
noncomputable abbrev r_cmp_isNaN_uint64 : RD := r1 vBool
noncomputable abbrev r_slices_siftDownCmpFunc_api_Ratio : RD := r0M (mRow 1000 2 ty_api_Ratio dGRatio)
noncomputable abbrev r_slices_nextPowerOfTwo : RD := r1 (vI .u64)
noncomputable abbrev r_slices_xorshift_Next : RD := r1M (vI .u64) (mBox 1000 1 ty_slices_xorshift dI_u64)
noncomputable abbrev r_slices_medianAdjacentCmpFunc_api_Ratio : RD := r1M (vI .i64) (mBox 1002 1 ty_i64_2 dI_i64)
noncomputable abbrev r_slices_medianCmpFunc_api_Ratio : RD := r1M (vI .i64) (mBox 1004 1 ty_i64_2 dI_i64)
noncomputable abbrev r_slices_order2CmpFunc_api_Ratio : RD := rTM (lCons (vI .i64) (lOne (vI .i64))) (mBox 1003 1 ty_i64_2 dI_i64)
noncomputable def resTab : List RD := [rRaw, rRaw, rRaw, r_law34_EquatingSelf, r_mark_Light, r_law34_sane, r_mark_Roll, r_mark_Dice_Distribution, r_conversion_Line, r_law34_whole, r_equating_Equate, r_equating_Chain, r_conversion_Same, r_equating_Percentile, r_conversion_Eval, r_equating_Mean, r_mark_Dice_Next, r_mark_Dice_Pick, r_ratio_Valid, r_ratio_Add, r_conversion_whole, r_equating_Linear, r_conversion_Compose, r_conversion_Normal, r_slices_Equal_api_Point_api_Point, r_distribution_Valid, r_slices_Contains_int_int, r_equating_sums, r_equating_number, r_conversion_Valid, r_conversion_eval, r_equating_both, r_distribution_Mean, r_equating_through, r_ratio_gcd, r_ratio_magnitude, r_ratio_signedProduct, r_ratio_signed_plus, r_ratio_wide_mod, r_ratio_fitted, r_ratio_wide_over, r_ratio_product, r_distribution_Deviation, r_ratio_Div, r_conversion_exchanged, r_slices_SortFunc_api_Ratio_api_Ratio, r_ratio_Compare, r_slices_Compact_api_Ratio_api_Ratio, r_conversion_normal, r_slices_Index_int_int, r_ratio_New, r_conversion_ascending, r_sort_Search, r_conversion_eval_1, r_conversion_steps_slope, r_conversion_steps_do, r_ratio_Mul, r_ratio_Sub, r_distribution_Count, r_distribution_check, r_distribution_sumOfScores, r_ratio_wide_plus, r_ratio_wide_compare, r_ratio_wide_minus, r_bits_Rem64, r_bits_Div64, r_bits_Mul64, r_slices_pdqsortCmpFunc_api_Ratio, r_bits_Len, r_conversion_bends, r_conversion_pointAt, r_ratio_reduced, r_ratio_Less, r_distribution_Below, rRaw, r_cmp_Compare_uint64, rRaw, r_bits_LeadingZeros64, r_slices_insertionSortCmpFunc_api_Ratio, r_slices_heapSortCmpFunc_api_Ratio, r_slices_breakPatternsCmpFunc_api_Ratio, r_slices_choosePivotCmpFunc_api_Ratio, r_slices_reverseRangeCmpFunc_api_Ratio, r_slices_partialInsertionSortCmpFunc_api_Ratio, r_slices_partitionEqualCmpFunc_api_Ratio, r_slices_partitionCmpFunc_api_Ratio, r_bits_Len32, r_bits_Len64, r_cmp_isNaN_uint64, r_slices_siftDownCmpFunc_api_Ratio, r_slices_nextPowerOfTwo, r_slices_xorshift_Next, r_slices_medianAdjacentCmpFunc_api_Ratio, r_slices_medianCmpFunc_api_Ratio, r_slices_order2CmpFunc_api_Ratio, rRaw, rRaw, rRaw, rRaw, rRaw, rRaw, rRaw, rRaw, rRaw, rRaw, rRaw, rRaw, rRaw, rRaw, rRaw, rRaw, rRaw, rRaw]
noncomputable def zT : Dic := Dic.of tyTab resTab
noncomputable abbrev R_law34_EquatingSelf : Fr := ⟨Try.prog, zC, zA, 3, Try.f3, []⟩
noncomputable abbrev R_mark_Light : Fr := ⟨Try.prog, zC, zA, 4, Try.f4, []⟩
noncomputable abbrev R_law34_sane : Fr := ⟨Try.prog, zC, zA, 5, Try.f5, []⟩
noncomputable abbrev R_mark_Roll : Fr := ⟨Try.prog, zC, zA, 6, Try.f6, []⟩
noncomputable abbrev R_mark_Dice_Distribution : Fr := ⟨Try.prog, zC, zA, 7, Try.f7, [(1000, ⟨0, 0, [], false⟩)]⟩
noncomputable abbrev R_conversion_Line : Fr := ⟨Try.prog, zC, zA, 8, Try.f8, []⟩
noncomputable abbrev R_law34_whole : Fr := ⟨Try.prog, zC, zA, 9, Try.f9, []⟩
noncomputable abbrev R_equating_Equate : Fr := ⟨Try.prog, zC, zA, 10, Try.f10, []⟩
noncomputable abbrev R_equating_Chain : Fr := ⟨Try.prog, zC, zA, 11, Try.f11, []⟩
noncomputable abbrev R_conversion_Same : Fr := ⟨Try.prog, zC, zA, 12, Try.f12, []⟩
noncomputable abbrev R_equating_Percentile : Fr := ⟨Try.prog, zC, zA, 13, Try.f13, []⟩
noncomputable abbrev R_conversion_Eval : Fr := ⟨Try.prog, zC, zA, 14, Try.f14, []⟩
noncomputable abbrev R_equating_Mean : Fr := ⟨Try.prog, zC, zA, 15, Try.f15, []⟩
noncomputable abbrev R_mark_Dice_Next : Fr := ⟨Try.prog, zC, zA, 16, Try.f16, [(1000, ⟨0, 0, [], false⟩)]⟩
noncomputable abbrev R_mark_Dice_Pick : Fr := ⟨Try.prog, zC, zA, 17, Try.f17, [(1000, ⟨0, 0, [], false⟩)]⟩
noncomputable abbrev R_ratio_Valid : Fr := ⟨Try.prog, zC, zA, 18, Try.f18, []⟩
noncomputable abbrev R_ratio_Add : Fr := ⟨Try.prog, zC, zA, 19, Try.f19, []⟩
noncomputable abbrev R_conversion_whole : Fr := ⟨Try.prog, zC, zA, 20, Try.f20, []⟩
noncomputable abbrev R_equating_Linear : Fr := ⟨Try.prog, zC, zA, 21, Try.f21, []⟩
noncomputable abbrev R_conversion_Compose : Fr := ⟨Try.prog, zC, zA, 22, Try.f22, []⟩
noncomputable abbrev R_conversion_Normal : Fr := ⟨Try.prog, zC, zA, 23, Try.f23, []⟩
noncomputable abbrev R_slices_Equal_api_Point_api_Point : Fr := ⟨Try.prog, zC, zA, 24, Try.f24, []⟩
noncomputable abbrev R_distribution_Valid : Fr := ⟨Try.prog, zC, zA, 25, Try.f25, []⟩
noncomputable abbrev R_slices_Contains_int_int : Fr := ⟨Try.prog, zC, zA, 26, Try.f26, []⟩
noncomputable abbrev R_equating_sums : Fr := ⟨Try.prog, zC, zA, 27, Try.f27, []⟩
noncomputable abbrev R_equating_number : Fr := ⟨Try.prog, zC, zA, 28, Try.f28, []⟩
noncomputable abbrev R_conversion_Valid : Fr := ⟨Try.prog, zC, zA, 29, Try.f29, []⟩
noncomputable abbrev R_conversion_eval : Fr := ⟨Try.prog, zC, zA, 30, Try.f30, []⟩
noncomputable abbrev R_equating_both : Fr := ⟨Try.prog, zC, zA, 31, Try.f31, []⟩
noncomputable abbrev R_distribution_Mean : Fr := ⟨Try.prog, zC, zA, 32, Try.f32, []⟩
noncomputable abbrev R_equating_through : Fr := ⟨Try.prog, zC, zA, 33, Try.f33, []⟩
noncomputable abbrev R_ratio_gcd : Fr := ⟨Try.prog, zC, zA, 34, Try.f34, []⟩
noncomputable abbrev R_ratio_magnitude : Fr := ⟨Try.prog, zC, zA, 35, Try.f35, []⟩
noncomputable abbrev R_ratio_signedProduct : Fr := ⟨Try.prog, zC, zA, 36, Try.f36, []⟩
noncomputable abbrev R_ratio_signed_plus : Fr := ⟨Try.prog, zC, zA, 37, Try.f37, []⟩
noncomputable abbrev R_ratio_wide_mod : Fr := ⟨Try.prog, zC, zA, 38, Try.f38, []⟩
noncomputable abbrev R_ratio_fitted : Fr := ⟨Try.prog, zC, zA, 39, Try.f39, []⟩
noncomputable abbrev R_ratio_wide_over : Fr := ⟨Try.prog, zC, zA, 40, Try.f40, []⟩
noncomputable abbrev R_ratio_product : Fr := ⟨Try.prog, zC, zA, 41, Try.f41, []⟩
noncomputable abbrev R_distribution_Deviation : Fr := ⟨Try.prog, zC, zA, 42, Try.f42, []⟩
noncomputable abbrev R_ratio_Div : Fr := ⟨Try.prog, zC, zA, 43, Try.f43, []⟩
noncomputable abbrev R_conversion_exchanged : Fr := ⟨Try.prog, zC, zA, 44, Try.f44, []⟩
noncomputable abbrev R_slices_SortFunc_api_Ratio_api_Ratio : Fr := ⟨Try.prog, zC, zA, 45, Try.f45, [(1000, ⟨0, 0, [], false⟩)]⟩
noncomputable abbrev R_ratio_Compare : Fr := ⟨Try.prog, zC, zA, 46, Try.f46, []⟩
noncomputable abbrev R_slices_Compact_api_Ratio_api_Ratio : Fr := ⟨Try.prog, zC, zA, 47, Try.f47, [(1000, ⟨0, 0, [], false⟩)]⟩
noncomputable abbrev R_conversion_normal : Fr := ⟨Try.prog, zC, zA, 48, Try.f48, []⟩
noncomputable abbrev R_slices_Index_int_int : Fr := ⟨Try.prog, zC, zA, 49, Try.f49, []⟩
noncomputable abbrev R_ratio_New : Fr := ⟨Try.prog, zC, zA, 50, Try.f50, []⟩
noncomputable abbrev R_conversion_ascending : Fr := ⟨Try.prog, zC, zA, 51, Try.f51, []⟩
noncomputable abbrev R_sort_Search : Fr := ⟨Try.prog, zC, zA, 52, Try.f52, []⟩
noncomputable abbrev R_conversion_eval_1 : Fr := ⟨Try.prog, zC, zA, 53, Try.f53, []⟩
noncomputable abbrev R_conversion_steps_slope : Fr := ⟨Try.prog, zC, zA, 54, Try.f54, [(1000, ⟨0, 0, [], false⟩)]⟩
noncomputable abbrev R_conversion_steps_do : Fr := ⟨Try.prog, zC, zA, 55, Try.f55, [(1000, ⟨0, 0, [], false⟩)]⟩
noncomputable abbrev R_ratio_Mul : Fr := ⟨Try.prog, zC, zA, 56, Try.f56, []⟩
noncomputable abbrev R_ratio_Sub : Fr := ⟨Try.prog, zC, zA, 57, Try.f57, []⟩
noncomputable abbrev R_distribution_Count : Fr := ⟨Try.prog, zC, zA, 58, Try.f58, []⟩
noncomputable abbrev R_distribution_check : Fr := ⟨Try.prog, zC, zA, 59, Try.f59, []⟩
noncomputable abbrev R_distribution_sumOfScores : Fr := ⟨Try.prog, zC, zA, 60, Try.f60, []⟩
noncomputable abbrev R_ratio_wide_plus : Fr := ⟨Try.prog, zC, zA, 61, Try.f61, []⟩
noncomputable abbrev R_ratio_wide_compare : Fr := ⟨Try.prog, zC, zA, 62, Try.f62, []⟩
noncomputable abbrev R_ratio_wide_minus : Fr := ⟨Try.prog, zC, zA, 63, Try.f63, []⟩
noncomputable abbrev R_bits_Rem64 : Fr := ⟨Try.prog, zC, zA, 64, Try.f64, []⟩
noncomputable abbrev R_bits_Div64 : Fr := ⟨Try.prog, zC, zA, 65, Try.f65, []⟩
noncomputable abbrev R_bits_Mul64 : Fr := ⟨Try.prog, zC, zA, 66, Try.f66, []⟩
noncomputable abbrev R_slices_pdqsortCmpFunc_api_Ratio : Fr := ⟨Try.prog, zC, zA, 67, Try.f67, [(1000, ⟨0, 0, [], false⟩)]⟩
noncomputable abbrev R_bits_Len : Fr := ⟨Try.prog, zC, zA, 68, Try.f68, []⟩
noncomputable abbrev R_conversion_bends : Fr := ⟨Try.prog, zC, zA, 69, Try.f69, []⟩
noncomputable abbrev R_conversion_pointAt : Fr := ⟨Try.prog, zC, zA, 70, Try.f70, []⟩
noncomputable abbrev R_ratio_reduced : Fr := ⟨Try.prog, zC, zA, 71, Try.f71, []⟩
noncomputable abbrev R_ratio_Less : Fr := ⟨Try.prog, zC, zA, 72, Try.f72, []⟩
noncomputable abbrev R_distribution_Below : Fr := ⟨Try.prog, zC, zA, 73, Try.f73, []⟩
noncomputable abbrev R_cmp_Compare_uint64 : Fr := ⟨Try.prog, zC, zA, 75, Try.f75, []⟩
noncomputable abbrev R_bits_LeadingZeros64 : Fr := ⟨Try.prog, zC, zA, 77, Try.f77, []⟩
noncomputable abbrev R_slices_insertionSortCmpFunc_api_Ratio : Fr := ⟨Try.prog, zC, zA, 78, Try.f78, [(1000, ⟨0, 0, [], false⟩)]⟩
noncomputable abbrev R_slices_heapSortCmpFunc_api_Ratio : Fr := ⟨Try.prog, zC, zA, 79, Try.f79, [(1000, ⟨0, 0, [], false⟩)]⟩
noncomputable abbrev R_slices_breakPatternsCmpFunc_api_Ratio : Fr := ⟨Try.prog, zC, zA, 80, Try.f80, [(1000, ⟨0, 0, [], false⟩)]⟩
noncomputable abbrev R_slices_choosePivotCmpFunc_api_Ratio : Fr := ⟨Try.prog, zC, zA, 81, Try.f81, []⟩
noncomputable abbrev R_slices_reverseRangeCmpFunc_api_Ratio : Fr := ⟨Try.prog, zC, zA, 82, Try.f82, [(1000, ⟨0, 0, [], false⟩)]⟩
noncomputable abbrev R_slices_partialInsertionSortCmpFunc_api_Ratio : Fr := ⟨Try.prog, zC, zA, 83, Try.f83, [(1000, ⟨0, 0, [], false⟩)]⟩
noncomputable abbrev R_slices_partitionEqualCmpFunc_api_Ratio : Fr := ⟨Try.prog, zC, zA, 84, Try.f84, [(1000, ⟨0, 0, [], false⟩)]⟩
noncomputable abbrev R_slices_partitionCmpFunc_api_Ratio : Fr := ⟨Try.prog, zC, zA, 85, Try.f85, [(1000, ⟨0, 0, [], false⟩)]⟩
noncomputable abbrev R_bits_Len32 : Fr := ⟨Try.prog, zC, zA, 86, Try.f86, []⟩
noncomputable abbrev R_bits_Len64 : Fr := ⟨Try.prog, zC, zA, 87, Try.f87, []⟩
noncomputable abbrev R_cmp_isNaN_uint64 : Fr := ⟨Try.prog, zC, zA, 88, Try.f88, []⟩
noncomputable abbrev R_slices_siftDownCmpFunc_api_Ratio : Fr := ⟨Try.prog, zC, zA, 89, Try.f89, [(1000, ⟨0, 0, [], false⟩)]⟩
noncomputable abbrev R_slices_nextPowerOfTwo : Fr := ⟨Try.prog, zC, zA, 90, Try.f90, []⟩
noncomputable abbrev R_slices_xorshift_Next : Fr := ⟨Try.prog, zC, zA, 91, Try.f91, [(1000, ⟨0, 0, [], false⟩)]⟩
noncomputable abbrev R_slices_medianAdjacentCmpFunc_api_Ratio : Fr := ⟨Try.prog, zC, zA, 92, Try.f92, [(1002, ⟨0, 0, [], false⟩)]⟩
noncomputable abbrev R_slices_medianCmpFunc_api_Ratio : Fr := ⟨Try.prog, zC, zA, 93, Try.f93, [(1004, ⟨0, 0, [], false⟩)]⟩
noncomputable abbrev R_slices_order2CmpFunc_api_Ratio : Fr := ⟨Try.prog, zC, zA, 94, Try.f94, [(1003, ⟨0, 0, [], false⟩)]⟩
noncomputable abbrev cw : Calling := callw Try.prog zC zA
end Go.Proofs.Ytapkemilafogjaa
