/- Annotations of the seat's functions: what lives behind each region, which slots own rows, which arguments are written; how results read. -/
import Derived.Test.YtiienbfdcgipnaaTy
import Derived.Test.YtiienbfdcgipnaaProg
namespace Go.Proofs.Ytiienbfdcgipnaa
open Go.Ab

abbrev ty_i64 : Nat := 2
abbrev ty_i64_2 : Nat := 3
abbrev ty_bool : Nat := 4
abbrev ty_u8 : Nat := 5
abbrev ty_abi_BoundsErrorCode : Nat := 6
abbrev ty_string : Nat := 9
abbrev ty_runtime_errorString : Nat := 10
abbrev ty_runtime_plainError : Nat := 11
abbrev ty_u64 : Nat := 12
abbrev ty_i32 : Nat := 21
abbrev ty_L_i64 : Nat := 22
abbrev ty_L_api_Point : Nat := 27
abbrev ty_api_Curve : Nat := 29
abbrev ty_api_Errno : Nat := 31
abbrev ty_api_Ratio : Nat := 37
abbrev ty_api_Point : Nat := 39
abbrev ty_mark_Dice : Nat := 52
abbrev ty_L_api_Ratio : Nat := 61
abbrev ty_conversion_steps : Nat := 69
abbrev ty_u64_2 : Nat := 73
abbrev ty_ref01_Wide : Nat := 80
abbrev ty_u64_3 : Nat := 88
abbrev ty_ratio_wide : Nat := 90
abbrev ty_ratio_signed : Nat := 92
abbrev ty_slices_sortedHint : Nat := 107
abbrev ty_u32 : Nat := 115
abbrev ty_slices_xorshift : Nat := 123
abbrev ty_abi_TFlag : Nat := 144
abbrev ty_abi_Kind : Nat := 145
abbrev ty_abi_NameOff : Nat := 148
abbrev ty_abi_TypeOff : Nat := 149
def f_law33_ConversionRises : Nat := 3
def f_law33_ConversionMarks : Nat := 4
def f_law33_ConversionComposes : Nat := 5
def f_law33_ConversionInverse : Nat := 6
def f_mark_Light : Nat := 7
def f_law33_sane : Nat := 8
def f_mark_Roll : Nat := 9
def f_mark_Dice_Curve : Nat := 10
def f_conversion_Normal : Nat := 11
def f_conversion_Same : Nat := 12
def f_conversion_Valid : Nat := 13
def f_conversion_Eval : Nat := 14
def f_mark_Dice_Ratio : Nat := 15
def f_ref01_Less : Nat := 16
def f_conversion_Convert : Nat := 17
def f_law33_whole : Nat := 18
def f_conversion_Compose : Nat := 19
def f_conversion_Line : Nat := 20
def f_conversion_Inverse : Nat := 21
def f_mark_Dice_Next : Nat := 22
def f_conversion_normal : Nat := 23
def f_slices_Equal_api_Point_api_Point : Nat := 24
def f_conversion_ascending : Nat := 25
def f_ratio_Valid : Nat := 26
def f_conversion_eval : Nat := 27
def f_ref01_Compare : Nat := 28
def f_conversion_whole : Nat := 29
def f_ratio_Round : Nat := 30
def f_conversion_exchanged : Nat := 31
def f_slices_SortFunc_api_Ratio_api_Ratio : Nat := 32
def f_ratio_Compare : Nat := 33
def f_slices_Compact_api_Ratio_api_Ratio : Nat := 34
def f_ratio_Add : Nat := 35
def f_conversion_bends : Nat := 36
def f_conversion_steps_do : Nat := 37
def f_ratio_Sub : Nat := 38
def f_conversion_pointAt : Nat := 39
def f_ratio_Less : Nat := 40
def f_ratio_gcd : Nat := 41
def f_ratio_magnitude : Nat := 42
def f_sort_Search : Nat := 43
def f_conversion_eval_1 : Nat := 44
def f_conversion_steps_slope : Nat := 45
def f_ratio_Mul : Nat := 46
def f_ref01_Valid : Nat := 47
def f_ref01_total : Nat := 48
def f_ref01_Product : Nat := 49
def f_ref01_Size : Nat := 50
def f_ratio_rounded : Nat := 51
def f_ratio_toRound : Nat := 52
def f_slices_pdqsortCmpFunc_api_Ratio : Nat := 53
def f_bits_Len : Nat := 54
def f_ratio_signedProduct : Nat := 55
def f_ratio_wide_compare : Nat := 56
def f_ratio_signed_plus : Nat := 57
def f_ratio_wide_mod : Nat := 58
def f_ratio_fitted : Nat := 59
def f_ratio_wide_over : Nat := 60
def f_ratio_product : Nat := 61
def f_ratio_Div : Nat := 62
def f_ref01_Divisor : Nat := 63
def f_ref01_Plus : Nat := 64
def f_ref01_Order : Nat := 65
def f_ref01_Minus : Nat := 66
def f_bits_Mul64 : Nat := 67
def f_slices_insertionSortCmpFunc_api_Ratio : Nat := 68
def f_slices_heapSortCmpFunc_api_Ratio : Nat := 69
def f_slices_breakPatternsCmpFunc_api_Ratio : Nat := 70
def f_slices_choosePivotCmpFunc_api_Ratio : Nat := 71
def f_slices_reverseRangeCmpFunc_api_Ratio : Nat := 72
def f_slices_partialInsertionSortCmpFunc_api_Ratio : Nat := 73
def f_slices_partitionEqualCmpFunc_api_Ratio : Nat := 74
def f_slices_partitionCmpFunc_api_Ratio : Nat := 75
def f_bits_Len32 : Nat := 76
def f_bits_Len64 : Nat := 77
def f_cmp_Compare_uint64 : Nat := 78
def f_ratio_wide_plus : Nat := 79
def f_ratio_wide_minus : Nat := 80
def f_bits_Rem64 : Nat := 81
def f_bits_Div64 : Nat := 82
def f_ref01_Divide : Nat := 83
def f_slices_siftDownCmpFunc_api_Ratio : Nat := 86
def f_slices_nextPowerOfTwo : Nat := 87
def f_slices_xorshift_Next : Nat := 88
def f_slices_medianAdjacentCmpFunc_api_Ratio : Nat := 89
def f_slices_medianCmpFunc_api_Ratio : Nat := 90
def f_cmp_isNaN_uint64 : Nat := 91
def f_bits_LeadingZeros64 : Nat := 92
def f_ref01_Twice : Nat := 93
def f_slices_order2CmpFunc_api_Ratio : Nat := 94
noncomputable def zC : Cfg := { wrt := atReg [(10, [0]), (15, [0]), (22, [0]), (32, [0]), (34, [0]), (37, [0]), (45, [0]), (53, [0]), (68, [0]), (69, [0]), (70, [0]), (72, [0]), (73, [0]), (74, [0]), (75, [0]), (86, [0]), (88, [0]), (89, [2]), (90, [4]), (94, [3])] }
def a_law33_ConversionRises : Ann := { lits := [], live := liveAt [(0, [0]), (1, [0, 22]), (2, [2]), (3, [3]), (4, [3, 4]), (5, [3, 4, 5, 6]), (6, [3, 4, 5, 45]), (7, [2]), (8, [3, 4, 5, 47, 48, 49]), (9, [3, 4, 5, 47, 48, 49, 50]), (10, [3, 4, 5, 8, 47, 48, 49]), (11, [3, 4, 5, 8, 9, 10, 47, 48, 49]), (12, [3, 4, 5, 47, 48, 49, 67]), (13, [2]), (14, [3, 4, 5, 47, 48, 49]), (15, [3, 4, 5, 11]), (16, [3, 4, 5, 11, 70]), (17, [3, 4, 5, 11]), (18, [3, 4, 5, 11, 12, 13]), (19, [3, 4, 5, 11, 12, 13, 14, 15]), (20, [3, 4, 5, 11, 12, 13, 14, 15, 16, 17]), (21, [3, 4, 5, 11, 12, 13, 14, 15, 16, 17, 18, 19]), (22, [3, 4, 5, 11, 127]), (23, [2]), (24, [2])], own := atReg [] }
def a_law33_ConversionMarks : Ann := { lits := [], live := liveAt [(0, [0, 1]), (1, [0, 1, 15]), (2, [4]), (3, [1, 5]), (4, [5, 6]), (5, [5, 6, 7]), (6, [5, 6, 7, 8]), (7, [5, 6, 7, 8, 24]), (8, [5, 6, 7, 8]), (9, [5, 6, 7, 8, 9, 10]), (10, [5, 6, 7, 8, 9, 10, 11, 12]), (11, [5, 6, 8, 9, 11, 60]), (12, [4]), (13, [5, 6, 7, 8, 9, 11]), (14, [5, 6, 7, 8, 92]), (15, [4]), (16, [4])], own := atReg [] }
def a_law33_ConversionComposes : Ann := { lits := [], live := liveAt [(0, [0]), (1, [0, 32]), (2, [2]), (3, [3]), (4, [3, 4, 5, 6]), (5, [3, 4, 5, 6, 7, 8]), (6, [3, 4, 5, 6, 7, 8, 9, 10]), (7, [3, 4, 5, 7, 8, 9, 10, 11, 12]), (8, [3, 4, 5, 7, 8, 10, 11, 12, 13, 14]), (9, [3, 4, 5, 7, 8, 10, 11, 12, 13, 14, 15, 16]), (10, [3, 4, 5, 7, 8, 10, 11, 12, 13, 14, 15, 16, 17, 18]), (11, [3, 4, 5, 7, 8, 10, 11, 12, 13, 14, 16, 17, 18, 19, 20]), (12, [4, 5, 7, 8, 10, 11, 12, 13, 14, 16, 17, 18, 19, 20, 21]), (13, [4, 5, 7, 8, 10, 11, 12, 13, 14, 16, 17, 18, 19, 20, 21, 22, 23]), (14, [4, 7, 8, 10, 11, 12, 13, 14, 16, 17, 18, 19, 20, 21, 23, 24, 25]), (15, [4, 8, 10, 11, 12, 13, 14, 16, 17, 18, 19, 20, 23, 24, 25, 26, 27]), (16, [4, 11, 13, 17, 19, 24, 26, 114, 115]), (17, [4, 11, 13, 17, 19, 24, 26, 114, 115, 116]), (18, [4, 11, 13, 17, 19, 24, 26, 29, 114, 115]), (19, [4, 11, 13, 17, 19, 24, 26, 114, 115, 119]), (20, [2]), (21, [4, 11, 13, 17, 19, 24, 26, 114, 115]), (22, [2])], own := atReg [] }
def a_law33_ConversionInverse : Ann := { lits := [], live := liveAt [(0, [0]), (1, [0, 22]), (2, [2]), (3, [3]), (4, [3, 4]), (5, [3, 4, 5, 6]), (6, [3, 4, 5, 6, 7, 8]), (7, [4, 5, 6, 7, 8, 9]), (8, [4, 5, 6, 7, 8, 9, 10, 11]), (9, [4, 5, 6, 7, 8, 9, 11, 12, 13]), (10, [4, 5, 6, 7, 8, 9, 11, 12, 13, 14, 15]), (11, [4, 6, 7, 8, 9, 11, 12, 13, 14, 15, 16, 17]), (12, [4, 6, 7, 8, 9, 11, 12, 13, 14, 15, 16, 17, 18, 19]), (13, [2])], own := atReg [] }
def a_mark_Light : Ann := { lits := [], live := liveAt [(0, [0]), (1, [2])], own := atReg [] }
def a_law33_sane : Ann := { lits := [], live := liveAt [(0, []), (1, [1]), (2, [1, 2, 3]), (3, [1, 2, 3, 4, 5]), (4, [2, 3, 4, 5, 6, 7]), (5, [2, 3, 4, 5, 6, 7, 8, 9]), (6, [0])], own := atReg [] }
def a_mark_Roll : Ann := { lits := [], live := liveAt [(0, [0]), (1, [2])], own := atReg [] }
def a_mark_Dice_Curve : Ann := { lits := [18], live := liveAt [(0, [0, 2]), (1, [0, 2, 3, 4]), (2, [0, 2, 3, 4, 5]), (3, [0, 2, 3, 4, 5, 6]), (4, [0, 2, 3, 4, 5, 6, 24]), (5, [0, 2, 3, 4, 5, 6]), (6, [0, 2, 3, 4, 5, 6]), (7, [0, 2, 3, 4, 5, 6]), (8, [2])], own := atReg [], cel := fun _ => [(5, 0, 900, 4, 39)] }
def a_conversion_Normal : Ann := { lits := [], live := liveAt [(0, [1, 2]), (1, [1, 2, 6]), (2, [2, 3]), (3, [2, 3])], own := atReg [] }
def a_conversion_Same : Ann := { lits := [], live := liveAt [(0, [2, 3]), (1, [3, 5, 6]), (2, [3, 5, 14]), (3, [4]), (4, [5, 6, 7]), (5, [4])], own := atReg [] }
def a_conversion_Valid : Ann := { lits := [], live := liveAt [(0, [1]), (1, [2])], own := atReg [] }
def a_conversion_Eval : Ann := { lits := [], live := liveAt [(0, [2, 3, 4]), (1, [2, 3, 4, 13]), (2, [4, 5]), (3, [4, 5])], own := atReg [] }
def a_mark_Dice_Ratio : Ann := { lits := [], live := liveAt [(0, [0, 2]), (1, [2, 3, 4]), (2, [2, 3, 4, 5]), (3, [2, 3, 4, 5, 13]), (4, [2, 3, 4, 5]), (5, [2, 3, 4, 5, 25]), (6, [2, 3, 4, 5]), (7, [2, 3, 4, 33]), (8, [2, 3, 4]), (9, [2])], own := atReg [] }
def a_ref01_Less : Ann := { lits := [], live := liveAt [(0, [2, 3]), (1, [4])], own := atReg [] }
def a_conversion_Convert : Ann := { lits := [], live := liveAt [(0, [1, 2, 3]), (1, [1, 2, 3, 23]), (2, [6, 7]), (3, [2, 8, 9]), (4, [2, 8, 9, 32]), (5, [6, 7]), (6, [6, 7])], own := atReg [] }
def a_law33_whole : Ann := { lits := [], live := liveAt [(0, [0, 2]), (1, [2])], own := atReg [] }
def a_conversion_Compose : Ann := { lits := [], live := liveAt [(0, [2, 3, 4]), (1, [2, 3, 4, 27]), (2, [4, 5]), (3, [2, 3, 4, 6]), (4, [2, 3, 4, 6, 30, 31, 32]), (5, [2, 3, 4, 6, 30, 31, 32, 33]), (6, [2, 3, 4, 6, 8, 30, 31, 32]), (7, [2, 3, 4, 6, 30, 31, 32]), (8, [2, 3, 4, 6, 30, 31, 32]), (9, [2, 3, 4, 6, 9]), (10, [2, 3, 4, 6, 9, 46, 47, 48]), (11, [2, 3, 4, 6, 9, 46, 47, 48, 49]), (12, [2, 3, 4, 6, 9, 11, 46, 47, 48]), (13, [2, 3, 4, 6, 9, 12, 13, 46, 47, 48]), (14, [2, 3, 4, 6, 9, 12, 13, 46, 47, 48, 60]), (15, [4, 5]), (16, [2, 3, 4, 6, 9, 46, 47, 48]), (17, [2, 3, 4, 6, 9, 46, 47, 48]), (18, [2, 3, 4, 6]), (19, [2, 3, 4, 6]), (20, [2, 3, 4, 6, 14]), (21, [2, 3, 4, 14, 75, 76, 77]), (22, [2, 3, 4, 14, 75, 76, 77, 78]), (23, [2, 3, 4, 14, 15, 16, 75, 76, 77]), (24, [2, 3, 4, 14, 15, 16, 17, 18, 75, 76, 77]), (25, [2, 3, 4, 14, 15, 16, 17, 18, 75, 76, 77, 90]), (26, [4, 5]), (27, [2, 3, 4, 14, 15, 16, 18, 19, 75, 76, 77]), (28, [2, 3, 4, 14, 15, 16, 18, 19, 75, 76, 77, 101]), (29, [4, 5]), (30, [2, 3, 4, 14, 75, 76, 77]), (31, [2, 3, 4, 14, 75, 76, 77]), (32, [4, 5])], own := atReg [(3, [(6, 2, 37)]), (7, [(6, 2, 37)]), (16, [(6, 2, 37)]), (19, [(6, 2, 37)])] }
def a_conversion_Line : Ann := { lits := [], live := liveAt [(0, [2, 3, 4]), (1, [2, 3, 4, 15]), (2, [4, 5]), (3, [2, 3, 4, 19]), (4, [4, 5]), (5, [3, 4, 6, 7]), (6, [3, 4, 6, 7, 28]), (7, [4, 5]), (8, [4, 5])], own := atReg [] }
def a_conversion_Inverse : Ann := { lits := [], live := liveAt [(0, [1, 2]), (1, [1, 2, 6]), (2, [2, 3]), (3, [2, 3])], own := atReg [] }
def a_mark_Dice_Next : Ann := { lits := [], live := liveAt [(0, [0, 1]), (1, [0, 1, 19]), (2, [4]), (3, [0, 1, 5]), (4, [1, 5]), (5, [1, 5, 40]), (6, [5]), (7, [4])], own := atReg [] }
def a_conversion_normal : Ann := { lits := [72], live := liveAt [(0, [0, 2]), (1, [0, 2, 4, 5]), (2, [0, 2, 4, 5, 17]), (3, [2, 3]), (4, [0, 2, 4, 6]), (5, [0, 2, 4, 6, 7, 8]), (6, [0, 2, 4, 6, 7, 8, 24]), (7, [0, 2, 4, 6, 7, 8]), (8, [0, 2, 4, 6, 7, 8]), (9, [0, 2, 4, 6, 7, 8, 42]), (10, [2, 3]), (11, [0, 2, 4, 5, 8, 9]), (12, [0, 2, 4, 5, 8, 9, 53]), (13, [2, 3]), (14, [2, 4, 5, 9, 10]), (15, [2, 4, 5, 9, 10, 63]), (16, [2, 3]), (17, [2, 4, 9, 10, 69]), (18, [2, 3]), (19, [2, 3])], own := atReg [] }
def a_slices_Equal_api_Point_api_Point : Ann := { lits := [], live := liveAt [(0, [0, 1]), (1, [0, 1, 10]), (2, [4]), (3, [0, 1, 12, 13]), (4, [0, 1, 12, 13, 14]), (5, [0, 1, 5, 12, 13]), (6, [0, 1, 12, 13, 24]), (7, [4]), (8, [0, 1, 12, 13]), (9, [4])], own := atReg [] }
def a_conversion_ascending : Ann := { lits := [], live := liveAt [(0, [0]), (1, [0, 5, 6, 7]), (2, [0, 5, 6, 7, 8]), (3, [0, 3, 4, 5, 6, 7]), (4, [0, 3, 4, 5, 6, 7, 21]), (5, [2]), (6, [0, 5, 6, 7, 47]), (7, [2]), (8, [0, 5, 6, 7]), (9, [2])], own := atReg [] }
def a_ratio_Valid : Ann := { lits := [], live := liveAt [(0, [1]), (1, [1, 20]), (2, [2]), (3, [2])], own := atReg [] }
def a_conversion_eval : Ann := { lits := [], live := liveAt [(0, [2, 3, 4]), (1, [2, 3, 4, 6]), (2, [2, 3, 4, 7]), (3, [3, 4, 8, 9]), (4, [3, 4, 8, 9, 10]), (5, [3, 4, 8, 10, 11]), (6, [4, 10, 12]), (7, [4, 5])], own := atReg [] }
def a_ref01_Compare : Ann := { lits := [], live := liveAt [(0, [2, 3]), (1, [2, 3, 14]), (2, [4]), (3, [5, 6]), (4, [5, 41]), (5, [4]), (6, [42]), (7, [4]), (8, [4])], own := atReg [] }
def a_conversion_whole : Ann := { lits := [], live := liveAt [(0, [0, 2]), (1, [2])], own := atReg [] }
def a_ratio_Round : Ann := { lits := [], live := liveAt [(0, [1]), (1, [2])], own := atReg [] }
def a_conversion_exchanged : Ann := { lits := [], live := liveAt [(0, [0]), (1, [0, 3]), (2, [3, 9, 10, 11]), (3, [3, 9, 10, 11, 12]), (4, [3, 4, 5, 9, 10, 11]), (5, [3, 9, 10, 11]), (6, [3, 9, 10, 11]), (7, [2])], own := atReg [] }
def a_slices_SortFunc_api_Ratio_api_Ratio : Ann := { lits := [], live := liveAt [(0, [0, 1, 4]), (1, [])], own := atReg [] }
def a_ratio_Compare : Ann := { lits := [], live := liveAt [(0, [2, 3]), (1, [2, 3, 14]), (2, [4]), (3, [5, 6]), (4, [5, 6, 27]), (5, [4]), (6, [5, 6, 39]), (7, [4]), (8, [5, 6, 42]), (9, [4]), (10, [4])], own := atReg [] }
def a_slices_Compact_api_Ratio_api_Ratio : Ann := { lits := [], live := liveAt [(0, [0]), (1, [0, 8]), (2, [2]), (3, [0, 3]), (4, [0, 3, 13]), (5, [0, 3]), (6, [0, 3, 25]), (7, [0, 3, 4]), (8, [0, 3, 4, 5]), (9, [0, 3, 4, 5, 32]), (10, [0, 3, 4, 5]), (11, [0, 3, 4, 5, 44]), (12, [0, 3, 4, 5]), (13, [0, 3, 4, 5]), (14, [0, 3]), (15, [2]), (16, [2])], own := atReg [] }
def a_ratio_Add : Ann := { lits := [], live := liveAt [(0, [2, 3, 4]), (1, [2, 3, 4, 18]), (2, [4, 5]), (3, [2, 3, 4, 6, 7]), (4, [2, 3, 4, 6, 7, 8]), (5, [4, 6, 7, 8, 9]), (6, [4, 6, 7, 8, 9, 10]), (7, [4, 5])], own := atReg [] }
def a_conversion_bends : Ann := { lits := [], live := liveAt [(0, [0]), (1, [0, 4]), (2, [0, 4, 5]), (3, [0, 4, 5, 6]), (4, [0, 4, 5, 6, 7]), (5, [0, 4, 5, 6, 7, 20]), (6, [0, 4, 5, 6, 7]), (7, [0, 4, 5, 6, 7, 8]), (8, [0, 4, 5, 6, 7, 8, 35]), (9, [0, 4, 5, 6, 7, 8]), (10, [0, 4, 5, 6, 7]), (11, [4, 5, 46]), (12, [2, 3]), (13, [2, 3])], own := atReg [(1, [(4, 4, 39)]), (9, [(4, 4, 39)])] }
def a_conversion_steps_do : Ann := { lits := [], live := liveAt [(0, [0, 1, 6, 7, 8]), (1, [0, 1, 6, 7, 8, 15]), (2, [8]), (3, [0, 8, 9, 10]), (4, [8, 9]), (5, [8])], own := atReg [] }
def a_ratio_Sub : Ann := { lits := [], live := liveAt [(0, [2, 3, 4]), (1, [2, 3, 4, 13]), (2, [4, 5]), (3, [4, 5])], own := atReg [] }
def a_conversion_pointAt : Ann := { lits := [], live := liveAt [(0, [0, 3, 4]), (1, [3, 4, 6, 7]), (2, [3, 4, 6, 7, 15]), (3, [4, 5]), (4, [4, 5])], own := atReg [] }
def a_ratio_Less : Ann := { lits := [], live := liveAt [(0, [2, 3]), (1, [4])], own := atReg [] }
def a_ratio_gcd : Ann := { lits := [], live := liveAt [(0, [0, 1]), (1, [0, 1, 6]), (2, [0, 1]), (3, [4])], own := atReg [] }
def a_ratio_magnitude : Ann := { lits := [], live := liveAt [(0, [0]), (1, [0, 4]), (2, [2]), (3, [2])], own := atReg [] }
def a_sort_Search : Ann := { lits := [], live := liveAt [(0, [0, 1]), (1, [1, 5, 6]), (2, [1, 5, 6, 11]), (3, [1, 5, 6, 7]), (4, [1, 5, 6, 7, 21]), (5, [1, 5, 6]), (6, [1, 5, 6]), (7, [4])], own := atReg [] }
def a_conversion_eval_1 : Ann := { lits := [], live := liveAt [(0, [0, 1, 2]), (1, [4])], own := atReg [] }
def a_conversion_steps_slope : Ann := { lits := [], live := liveAt [(0, [0, 4, 5, 6]), (1, [6])], own := atReg [] }
def a_ratio_Mul : Ann := { lits := [], live := liveAt [(0, [2, 3, 4]), (1, [2, 3, 4, 20]), (2, [4, 5]), (3, [2, 3, 4, 6, 7]), (4, [2, 3, 4, 6, 7, 8, 9]), (5, [2, 3, 4, 6, 7, 8, 9, 10, 11]), (6, [4, 6, 7, 8, 9, 10, 11, 12]), (7, [4, 5])], own := atReg [] }
def a_ref01_Valid : Ann := { lits := [], live := liveAt [(0, [1]), (1, [1, 20]), (2, [2]), (3, [2])], own := atReg [] }
def a_ref01_total : Ann := { lits := [], live := liveAt [(0, [0, 2, 5, 7, 9]), (1, [0, 2, 5, 7, 9, 12]), (2, [8, 9]), (3, [0, 2, 5, 7, 9, 20]), (4, [8, 9]), (5, [8, 9])], own := atReg [] }
def a_ref01_Product : Ann := { lits := [], live := liveAt [(0, [0, 1, 4]), (1, [4, 5, 6]), (2, [4])], own := atReg [] }
def a_ref01_Size : Ann := { lits := [], live := liveAt [(0, [0]), (1, [0, 4]), (2, [2]), (3, [2])], own := atReg [] }
def a_ratio_rounded : Ann := { lits := [], live := liveAt [(0, [1, 2]), (1, [1, 2, 9]), (2, [4]), (3, [1, 2, 5, 6]), (4, [1, 2, 5, 6, 21]), (5, [1, 2, 5, 6]), (6, [4])], own := atReg [] }
def a_ratio_toRound : Ann := { lits := [], live := liveAt [(0, [0, 1, 2]), (1, [0, 11]), (2, [6]), (3, [6])], own := atReg [] }
def a_slices_pdqsortCmpFunc_api_Ratio : Ann := { lits := [], live := liveAt [(0, [0, 1, 2, 3, 4, 10]), (1, [0, 1, 2, 3, 4, 10, 11]), (2, [0, 1, 2, 3, 4, 10, 11, 12]), (3, [0, 1, 2, 3, 4, 10, 11, 12, 25]), (4, []), (5, [0, 1, 2, 3, 4, 10, 11, 12, 32]), (6, []), (7, [0, 1, 2, 3, 4, 10, 11, 12, 39]), (8, [0, 1, 2, 3, 4, 10, 11, 12]), (9, [0, 1, 2, 3, 4, 10, 11, 12]), (10, [0, 1, 2, 3, 4, 10, 11, 12, 13, 14]), (11, [0, 1, 2, 3, 4, 10, 11, 12, 13, 14, 56]), (12, [0, 1, 2, 3, 4, 10, 11, 12, 13]), (13, [0, 1, 2, 3, 4, 10, 11, 12, 13]), (14, [0, 1, 2, 3, 4, 10, 11, 12, 13, 14]), (15, [0, 1, 2, 3, 4, 10, 11, 12, 13, 75]), (16, [0, 1, 2, 3, 4, 10, 11, 12, 13, 80]), (17, [0, 1, 2, 3, 4, 10, 11, 12, 13, 97]), (18, [0, 2, 3, 4, 10, 11, 15]), (19, [0, 1, 2, 3, 4, 10, 11]), (20, [0, 1, 2, 3, 4, 12, 16, 17]), (21, [0, 1, 2, 3, 4, 11, 12, 16]), (22, [0, 1, 2, 3, 4, 11, 12, 16, 18, 19]), (23, [0, 1, 2, 3, 4, 11, 16, 18, 19, 20]), (24, [0, 1, 2, 3, 4, 11, 16, 18, 19, 20, 125]), (25, [0, 1, 2, 3, 4, 10, 11, 16]), (26, [0, 2, 3, 4, 10, 11, 16]), (27, [0, 1, 2, 3, 4, 10, 11]), (28, [0, 1, 2, 3, 4, 10, 11, 16]), (29, [0, 1, 3, 4, 10, 11, 16]), (30, [0, 1, 2, 3, 4, 10, 11])], own := atReg [] }
def a_bits_Len : Ann := { lits := [], live := liveAt [(0, [0]), (1, [2]), (2, [2])], own := atReg [] }
def a_ratio_signedProduct : Ann := { lits := [], live := liveAt [(0, [0, 1, 4]), (1, [4])], own := atReg [] }
def a_ratio_wide_compare : Ann := { lits := [], live := liveAt [(0, [2, 3]), (1, [2, 3, 5]), (2, [2, 3, 5, 12]), (3, [4]), (4, [4])], own := atReg [] }
def a_ratio_signed_plus : Ann := { lits := [], live := liveAt [(0, [2, 3, 4]), (1, [2, 3, 4, 9]), (2, [4]), (3, [2, 3, 4, 23]), (4, [4]), (5, [4])], own := atReg [] }
def a_ratio_wide_mod : Ann := { lits := [], live := liveAt [(0, [1, 2]), (1, [4])], own := atReg [] }
def a_ratio_fitted : Ann := { lits := [], live := liveAt [(0, [0, 4, 5, 6]), (1, [0, 4, 5, 6, 26]), (2, [6, 7]), (3, [0, 5, 6, 8]), (4, [5, 6, 8, 31]), (5, [5, 6, 8]), (6, [6, 7])], own := atReg [] }
def a_ratio_wide_over : Ann := { lits := [], live := liveAt [(0, [1, 2, 4]), (1, [1, 2, 4, 5, 6]), (2, [4, 5, 7]), (3, [4])], own := atReg [] }
def a_ratio_product : Ann := { lits := [], live := liveAt [(0, [0, 1, 4]), (1, [4, 5, 6]), (2, [4])], own := atReg [] }
def a_ratio_Div : Ann := { lits := [], live := liveAt [(0, [2, 3, 4]), (1, [2, 3, 4, 14]), (2, [4, 5]), (3, [2, 3, 4, 18]), (4, [4, 5]), (5, [2, 3, 4, 6]), (6, [2, 3, 4, 6, 27]), (7, [2, 4, 6]), (8, [4, 5])], own := atReg [] }
def a_ref01_Divisor : Ann := { lits := [], live := liveAt [(0, [2, 3, 4]), (1, [2, 3, 4, 9]), (2, [2, 3, 4, 6]), (3, [2, 3, 4]), (4, [4])], own := atReg [] }
def a_ref01_Plus : Ann := { lits := [], live := liveAt [(0, [2, 3, 4]), (1, [2, 3, 4, 5, 6]), (2, [4, 5, 7]), (3, [4])], own := atReg [] }
def a_ref01_Order : Ann := { lits := [], live := liveAt [(0, [2, 3]), (1, [2, 3, 23]), (2, [4]), (3, [26]), (4, [4]), (5, [4])], own := atReg [] }
def a_ref01_Minus : Ann := { lits := [], live := liveAt [(0, [2, 3, 4]), (1, [2, 3, 4, 5, 6]), (2, [4, 5, 7]), (3, [4])], own := atReg [] }
def a_bits_Mul64 : Ann := { lits := [], live := liveAt [(0, [0, 1]), (1, [0, 1, 6]), (2, [0, 1, 6, 7]), (3, [0, 1, 6, 7, 8]), (4, [0, 1, 6, 7, 8, 9]), (5, [0, 1, 6, 7, 8, 9, 10]), (6, [0, 1, 6, 7, 9, 11]), (7, [0, 1, 6, 7, 9, 11, 12]), (8, [0, 1, 6, 7, 9, 12, 13]), (9, [0, 1, 7, 9, 12, 13]), (10, [0, 1, 4]), (11, [4, 5])], own := atReg [] }
def a_slices_insertionSortCmpFunc_api_Ratio : Ann := { lits := [], live := liveAt [(0, [0, 1, 2, 3, 8]), (1, [0, 1, 2, 3, 8, 14]), (2, [0, 1, 2, 3, 8]), (3, [0, 1, 2, 3, 8, 9]), (4, [0, 1, 2, 3, 8, 9, 34]), (5, [0, 1, 2, 3, 8, 9]), (6, [0, 1, 2, 3, 8, 9])], own := atReg [] }
def a_slices_heapSortCmpFunc_api_Ratio : Ann := { lits := [], live := liveAt [(0, [0, 1, 2, 3, 8]), (1, [0, 1, 2, 3, 8, 9]), (2, [0, 3, 8, 9, 10]), (3, [0, 3, 8, 9, 10, 11]), (4, [0, 3, 8, 9, 10, 11, 21]), (5, [0, 3, 8, 9, 10, 11]), (6, [0, 3, 8, 9, 10, 11]), (7, [0, 3, 8, 9, 12]), (8, [0, 3, 8, 9, 12, 33]), (9, [0, 3, 8, 9, 12]), (10, [0, 3, 8, 9, 12]), (11, [0, 3, 8, 9, 12])], own := atReg [] }
def a_slices_breakPatternsCmpFunc_api_Ratio : Ann := { lits := [], live := liveAt [(0, [0, 1, 8]), (1, [0, 1, 8, 17]), (2, [0, 1, 8, 9]), (3, [0, 1, 8, 9, 10]), (4, [0, 1, 8, 9, 10, 11]), (5, [0, 1, 8, 9, 10, 11, 35]), (6, [0, 1, 8, 9, 10, 11]), (7, [0, 1, 8, 9, 10, 11, 12]), (8, [0, 1, 8, 9, 10, 11, 12, 45]), (9, [0, 1, 8, 9, 10, 11, 12]), (10, [0, 1, 8, 9, 10, 11])], own := atReg [] }
def a_slices_choosePivotCmpFunc_api_Ratio : Ann := { lits := [], live := liveAt [(0, [0, 1, 2, 3]), (1, [0, 1, 3, 10]), (2, [0, 1, 3, 10, 11]), (3, [0, 1, 3, 10, 11, 12]), (4, [0, 1, 3, 10, 11, 12, 13]), (5, [0, 3, 10, 11, 12, 13, 14]), (6, [0, 3, 10, 11, 12, 13, 14, 34]), (7, [0, 3, 11, 12, 13, 14, 36]), (8, [0, 3, 11, 12, 13, 14]), (9, [0, 3, 11, 12, 13, 14]), (10, [0, 3, 11, 12, 13, 14]), (11, [11, 13]), (12, [13, 55]), (13, [8, 9]), (14, [13, 55, 57]), (15, [8, 9]), (16, [13, 60]), (17, [8, 9])], own := atReg [] }
def a_slices_reverseRangeCmpFunc_api_Ratio : Ann := { lits := [], live := liveAt [(0, [0, 2, 8]), (1, [0, 8, 9]), (2, [0, 8, 9, 15]), (3, [0, 8, 9]), (4, [0, 8, 9]), (5, [0, 8, 9])], own := atReg [] }
def a_slices_partialInsertionSortCmpFunc_api_Ratio : Ann := { lits := [], live := liveAt [(0, [0, 1, 2, 3]), (1, [0, 1, 2, 3, 9]), (2, [0, 1, 2, 3, 9, 10]), (3, [0, 1, 2, 3, 9, 10, 16]), (4, [0, 1, 2, 3, 9, 10]), (5, [0, 1, 2, 3, 9, 10, 36]), (6, [0, 1, 2, 3, 9, 10]), (7, [0, 1, 2, 3, 9, 10, 41]), (8, [8]), (9, [0, 1, 2, 3, 9, 10, 45]), (10, [8]), (11, [0, 1, 2, 3, 9, 10]), (12, [0, 1, 2, 3, 9, 10, 65]), (13, [0, 1, 2, 3, 9, 10, 11]), (14, [0, 1, 2, 3, 9, 10, 11, 69]), (15, [0, 1, 2, 3, 9, 10, 11]), (16, [0, 1, 2, 3, 9, 10, 11, 84]), (17, [0, 1, 2, 3, 9, 10, 11]), (18, [0, 1, 2, 3, 9, 10, 104]), (19, [0, 1, 2, 3, 9, 10, 12]), (20, [0, 1, 2, 3, 9, 10, 12, 109]), (21, [0, 1, 2, 3, 9, 10, 12]), (22, [0, 1, 2, 3, 9, 10, 12, 124]), (23, [0, 1, 2, 3, 9, 10, 12]), (24, [8])], own := atReg [] }
def a_slices_partitionEqualCmpFunc_api_Ratio : Ann := { lits := [], live := liveAt [(0, [0, 1, 2, 3, 4]), (1, [0, 1, 2, 4]), (2, [0, 1, 4, 11, 12]), (3, [0, 1, 4, 11, 12, 47]), (4, [0, 1, 4, 11, 12]), (5, [0, 1, 4, 11, 12, 65]), (6, [0, 1, 4, 11, 12]), (7, [0, 1, 4, 11, 12, 70]), (8, [0, 1, 4, 11, 12]), (9, [0, 1, 4, 11, 12]), (10, [0, 1, 4, 11, 12]), (11, [10])], own := atReg [] }
def a_slices_partitionCmpFunc_api_Ratio : Ann := { lits := [], live := liveAt [(0, [0, 1, 2, 3, 4]), (1, [0, 1, 2, 4]), (2, [0, 1, 4, 12, 13]), (3, [0, 1, 4, 12, 13, 47]), (4, [0, 1, 4, 12, 13]), (5, [0, 1, 4, 12, 13, 66]), (6, [0, 1, 4, 12, 13]), (7, [0, 1, 4, 12, 13, 71]), (8, [13]), (9, [10, 11]), (10, [0, 1, 4, 12, 13]), (11, [0, 1, 4, 12, 13]), (12, [0, 1, 4, 12, 13]), (13, [0, 1, 4, 12, 13, 120]), (14, [0, 1, 4, 12, 13]), (15, [0, 1, 4, 12, 13, 139]), (16, [0, 1, 4, 12, 13]), (17, [0, 1, 4, 12, 13, 144]), (18, [0, 1, 4, 12, 13]), (19, [0, 1, 4, 12, 13]), (20, [0, 1, 4, 12, 13]), (21, [13]), (22, [10, 11])], own := atReg [] }
def a_bits_Len32 : Ann := { lits := [], live := liveAt [(0, [0, 2]), (1, [0, 2, 4]), (2, [0]), (3, [0, 2]), (4, [0, 2, 8]), (5, [0, 2]), (6, [0, 2]), (7, [2])], own := atReg [] }
def a_bits_Len64 : Ann := { lits := [], live := liveAt [(0, [0, 2]), (1, [0, 2, 4]), (2, [0]), (3, [0, 2]), (4, [0, 2, 8]), (5, [0, 2]), (6, [0, 2]), (7, [0, 2, 14]), (8, [0, 2]), (9, [0, 2]), (10, [2])], own := atReg [] }
def a_cmp_Compare_uint64 : Ann := { lits := [], live := liveAt [(0, [0, 1]), (1, [0, 1, 5]), (2, [0, 1, 5, 6]), (3, [0, 1, 6, 11]), (4, [12]), (5, [4]), (6, [4]), (7, [0, 1, 13]), (8, [4]), (9, [0, 1, 16]), (10, [4]), (11, [19]), (12, [4]), (13, [4])], own := atReg [] }
def a_ratio_wide_plus : Ann := { lits := [], live := liveAt [(0, [2, 3, 4]), (1, [2, 3, 4, 5, 6]), (2, [4, 5, 7]), (3, [4])], own := atReg [] }
def a_ratio_wide_minus : Ann := { lits := [], live := liveAt [(0, [2, 3, 4]), (1, [2, 3, 4, 5, 6]), (2, [4, 5, 7]), (3, [4])], own := atReg [] }
def a_bits_Rem64 : Ann := { lits := [], live := liveAt [(0, [0, 1, 2]), (1, [8]), (2, [6])], own := atReg [] }
def a_bits_Div64 : Ann := { lits := [], live := liveAt [(0, [0, 1, 2]), (1, [0, 1, 2, 20]), (2, [0, 1, 2]), (3, [0, 1, 2, 24]), (4, [0, 1, 2]), (5, [0, 1, 2, 27]), (6, [6, 7]), (7, [0, 1, 2, 8]), (8, [0, 1, 2, 8]), (9, [0, 1, 2, 8, 9]), (10, [0, 1, 2, 8, 9, 10]), (11, [1, 2, 8, 9, 10, 11]), (12, [2, 8, 9, 10, 11, 12]), (13, [2, 8, 9, 10, 11, 12, 13]), (14, [2, 8, 9, 10, 11, 13, 14]), (15, [2, 8, 9, 10, 11, 13, 14, 15]), (16, [2, 8, 9, 10, 11, 13, 14, 15, 16]), (17, [2, 8, 9, 10, 11, 13, 14, 15, 16, 78]), (18, [2, 8, 9, 10, 11, 13, 14, 15, 16]), (19, [2, 8, 9, 10, 11, 13, 14, 15, 16]), (20, [2, 8, 9, 10, 11, 13, 14, 15, 16, 85]), (21, [2, 8, 9, 10, 14, 15, 17]), (22, [2, 8, 9, 10, 14, 15, 17, 18]), (23, [2, 8, 9, 10, 14, 15, 16, 17, 18]), (24, [2, 8, 9, 10, 14, 15, 16, 17, 18, 113]), (25, [2, 8, 9, 10, 14, 15, 16, 17, 18]), (26, [2, 8, 9, 10, 14, 15, 16, 17, 18]), (27, [2, 8, 9, 10, 14, 15, 16, 17, 18, 120]), (28, [6, 7])], own := atReg [] }
def a_ref01_Divide : Ann := { lits := [], live := liveAt [(0, [2, 3, 4, 5]), (1, [2, 3, 4, 5, 18]), (2, [4, 5]), (3, [2, 3, 4, 5, 6, 7]), (4, [2, 3, 4, 5, 6, 7, 8]), (5, [2, 3, 4, 5, 6, 7, 8, 34]), (6, [2, 3, 4, 5, 6, 7, 8]), (7, [2, 3, 4, 5, 6, 7, 8, 9]), (8, [2, 3, 4, 5, 6, 7, 8, 9, 45]), (9, [2, 3, 4, 5, 6, 7, 8, 9]), (10, [2, 3, 4, 5, 6, 7, 8, 9, 10]), (11, [2, 3, 4, 5, 6, 7, 8, 9, 10]), (12, [2, 3, 4, 5, 6, 7, 8, 10]), (13, [2, 3, 4, 5, 6, 7, 8, 10]), (14, [2, 3, 4, 5, 6, 7, 8, 72]), (15, [2, 3, 4, 5, 6, 7, 8]), (16, [2, 3, 4, 5, 6, 7, 8]), (17, [4, 5])], own := atReg [] }
def a_slices_siftDownCmpFunc_api_Ratio : Ann := { lits := [], live := liveAt [(0, [0, 2, 3, 4, 10]), (1, [0, 2, 3, 4, 10, 11]), (2, [0, 2, 3, 4, 10, 11, 18]), (3, [0, 2, 3, 4, 10, 11, 40]), (4, [0, 2, 3, 4, 10, 11]), (5, [0, 2, 3, 4, 10, 11, 58]), (6, [0, 2, 3, 4, 11]), (7, [0, 2, 3, 4, 10])], own := atReg [] }
def a_slices_nextPowerOfTwo : Ann := { lits := [], live := liveAt [(0, [0]), (1, [2])], own := atReg [] }
def a_slices_xorshift_Next : Ann := { lits := [], live := liveAt [(0, [0]), (1, [0]), (2, [0]), (3, [0]), (4, [2])], own := atReg [] }
def a_slices_medianAdjacentCmpFunc_api_Ratio : Ann := { lits := [], live := liveAt [(0, [0, 1, 2, 3]), (1, [8])], own := atReg [] }
def a_slices_medianCmpFunc_api_Ratio : Ann := { lits := [], live := liveAt [(0, [0, 1, 2, 3, 4, 5]), (1, [0, 1, 2, 3, 4, 5]), (2, [0, 1, 2, 4, 5]), (3, [2]), (4, [12])], own := atReg [] }
def a_cmp_isNaN_uint64 : Ann := { lits := [], live := liveAt [(0, [0]), (1, [2])], own := atReg [] }
def a_bits_LeadingZeros64 : Ann := { lits := [], live := liveAt [(0, [0]), (1, [2])], own := atReg [] }
def a_ref01_Twice : Ann := { lits := [], live := liveAt [(0, [1, 2]), (1, [2])], own := atReg [] }
def a_slices_order2CmpFunc_api_Ratio : Ann := { lits := [], live := liveAt [(0, [0, 1, 2, 3, 4]), (1, [1, 2, 3, 22]), (2, [1, 2]), (3, [10, 11]), (4, [10, 11])], own := atReg [] }
def annTab : List Ann := [{ lits := [], live := fun _ => none, own := fun _ => [] }, { lits := [], live := fun _ => none, own := fun _ => [] }, { lits := [], live := fun _ => none, own := fun _ => [] }, a_law33_ConversionRises, a_law33_ConversionMarks, a_law33_ConversionComposes, a_law33_ConversionInverse, a_mark_Light, a_law33_sane, a_mark_Roll, a_mark_Dice_Curve, a_conversion_Normal, a_conversion_Same, a_conversion_Valid, a_conversion_Eval, a_mark_Dice_Ratio, a_ref01_Less, a_conversion_Convert, a_law33_whole, a_conversion_Compose, a_conversion_Line, a_conversion_Inverse, a_mark_Dice_Next, a_conversion_normal, a_slices_Equal_api_Point_api_Point, a_conversion_ascending, a_ratio_Valid, a_conversion_eval, a_ref01_Compare, a_conversion_whole, a_ratio_Round, a_conversion_exchanged, a_slices_SortFunc_api_Ratio_api_Ratio, a_ratio_Compare, a_slices_Compact_api_Ratio_api_Ratio, a_ratio_Add, a_conversion_bends, a_conversion_steps_do, a_ratio_Sub, a_conversion_pointAt, a_ratio_Less, a_ratio_gcd, a_ratio_magnitude, a_sort_Search, a_conversion_eval_1, a_conversion_steps_slope, a_ratio_Mul, a_ref01_Valid, a_ref01_total, a_ref01_Product, a_ref01_Size, a_ratio_rounded, a_ratio_toRound, a_slices_pdqsortCmpFunc_api_Ratio, a_bits_Len, a_ratio_signedProduct, a_ratio_wide_compare, a_ratio_signed_plus, a_ratio_wide_mod, a_ratio_fitted, a_ratio_wide_over, a_ratio_product, a_ratio_Div, a_ref01_Divisor, a_ref01_Plus, a_ref01_Order, a_ref01_Minus, a_bits_Mul64, a_slices_insertionSortCmpFunc_api_Ratio, a_slices_heapSortCmpFunc_api_Ratio, a_slices_breakPatternsCmpFunc_api_Ratio, a_slices_choosePivotCmpFunc_api_Ratio, a_slices_reverseRangeCmpFunc_api_Ratio, a_slices_partialInsertionSortCmpFunc_api_Ratio, a_slices_partitionEqualCmpFunc_api_Ratio, a_slices_partitionCmpFunc_api_Ratio, a_bits_Len32, a_bits_Len64, a_cmp_Compare_uint64, a_ratio_wide_plus, a_ratio_wide_minus, a_bits_Rem64, a_bits_Div64, a_ref01_Divide, { lits := [], live := fun _ => none, own := fun _ => [] }, { lits := [], live := fun _ => none, own := fun _ => [] }, a_slices_siftDownCmpFunc_api_Ratio, a_slices_nextPowerOfTwo, a_slices_xorshift_Next, a_slices_medianAdjacentCmpFunc_api_Ratio, a_slices_medianCmpFunc_api_Ratio, a_cmp_isNaN_uint64, a_bits_LeadingZeros64, a_ref01_Twice, a_slices_order2CmpFunc_api_Ratio, { lits := [], live := fun _ => none, own := fun _ => [] }, { lits := [], live := fun _ => none, own := fun _ => [] }, { lits := [], live := fun _ => none, own := fun _ => [] }, { lits := [], live := fun _ => none, own := fun _ => [] }, { lits := [], live := fun _ => none, own := fun _ => [] }, { lits := [], live := fun _ => none, own := fun _ => [] }, { lits := [], live := fun _ => none, own := fun _ => [] }, { lits := [], live := fun _ => none, own := fun _ => [] }, { lits := [], live := fun _ => none, own := fun _ => [] }, { lits := [], live := fun _ => none, own := fun _ => [] }, { lits := [], live := fun _ => none, own := fun _ => [] }, { lits := [], live := fun _ => none, own := fun _ => [] }, { lits := [], live := fun _ => none, own := fun _ => [] }, { lits := [], live := fun _ => none, own := fun _ => [] }, { lits := [], live := fun _ => none, own := fun _ => [] }, { lits := [], live := fun _ => none, own := fun _ => [] }, { lits := [], live := fun _ => none, own := fun _ => [] }, { lits := [], live := fun _ => none, own := fun _ => [] }]
def zA : AnnF := fun f => annTab.getD f { lits := [], live := fun _ => none, own := fun _ => [] }
noncomputable abbrev r_law33_ConversionRises : RD := r1 vBool
noncomputable abbrev r_law33_ConversionMarks : RD := r1 vBool
noncomputable abbrev r_law33_ConversionComposes : RD := r1 vBool
noncomputable abbrev r_law33_ConversionInverse : RD := r1 vBool
noncomputable abbrev r_mark_Light : RD := r1 vBool
noncomputable abbrev r_law33_sane : RD := r1 vBool
noncomputable abbrev r_mark_Roll : RD := r1 (vNewp 2 ty_mark_Dice dGmarkDice)
noncomputable abbrev r_mark_Dice_Curve : RD := r1M (vAgg dGCurve) (mBox 1000 2 ty_mark_Dice dGmarkDice)
noncomputable abbrev r_conversion_Normal : RD := rT (lCons (vAgg dGCurve) (lOne (vI .i64)))
noncomputable abbrev r_conversion_Same : RD := r1 vBool
noncomputable abbrev r_conversion_Valid : RD := r1 vBool
noncomputable abbrev r_conversion_Eval : RD := rT (lCons (vAgg dGRatio) (lOne (vI .i64)))
noncomputable abbrev r_mark_Dice_Ratio : RD := r1M (vAgg dGRatio) (mBox 1000 2 ty_mark_Dice dGmarkDice)
noncomputable abbrev r_ref01_Less : RD := r1 vBool
noncomputable abbrev r_conversion_Convert : RD := rT (lCons (vI .i64) (lOne (vI .i64)))
noncomputable abbrev r_law33_whole : RD := r1 (vAgg dGRatio)
noncomputable abbrev r_conversion_Compose : RD := rT (lCons (vAgg dGCurve) (lOne (vI .i64)))
noncomputable abbrev r_conversion_Line : RD := rT (lCons (vAgg dGCurve) (lOne (vI .i64)))
noncomputable abbrev r_conversion_Inverse : RD := rT (lCons (vAgg dGCurve) (lOne (vI .i64)))
noncomputable abbrev r_mark_Dice_Next : RD := r1M (vI .i64) (mBox 1000 2 ty_mark_Dice dGmarkDice)
noncomputable abbrev r_conversion_normal : RD := rT (lCons (vAgg dGCurve) (lOne (vI .i64)))
noncomputable abbrev r_slices_Equal_api_Point_api_Point : RD := r1 vBool
noncomputable abbrev r_conversion_ascending : RD := r1 vBool
noncomputable abbrev r_ratio_Valid : RD := r1 vBool
noncomputable abbrev r_conversion_eval : RD := rT (lCons (vAgg dGRatio) (lOne (vI .i64)))
noncomputable abbrev r_ref01_Compare : RD := r1 (vI .i64)
noncomputable abbrev r_conversion_whole : RD := r1 (vAgg dGRatio)
noncomputable abbrev r_ratio_Round : RD := r1 (vI .i64)
noncomputable abbrev r_conversion_exchanged : RD := r1 (vNew 4 ty_api_Point dGPoint)
noncomputable abbrev r_slices_SortFunc_api_Ratio_api_Ratio : RD := r0M (mRow 1000 2 ty_api_Ratio dGRatio)
noncomputable abbrev r_ratio_Compare : RD := r1 (vI .i64)
noncomputable abbrev r_slices_Compact_api_Ratio_api_Ratio : RD := r1M (vRow 1000 2) (mRow 1000 2 ty_api_Ratio dGRatio)
noncomputable abbrev r_ratio_Add : RD := rT (lCons (vAgg dGRatio) (lOne (vI .i64)))
noncomputable abbrev r_conversion_bends : RD := rT (lCons (vSl 4 dGPoint) (lOne (vI .i64)))
noncomputable abbrev r_conversion_steps_do : RD := r1M (vAgg dGRatio) (mBox 1000 1 ty_conversion_steps dGconversionSteps)
noncomputable abbrev r_ratio_Sub : RD := rT (lCons (vAgg dGRatio) (lOne (vI .i64)))
noncomputable abbrev r_conversion_pointAt : RD := rT (lCons (vAgg dGPoint) (lOne (vI .i64)))
noncomputable abbrev r_ratio_Less : RD := r1 vBool
noncomputable abbrev r_ratio_gcd : RD := r1 (vI .u64)
noncomputable abbrev r_ratio_magnitude : RD := r1 (vI .u64)
noncomputable abbrev r_sort_Search : RD := r1 (vI .i64)
noncomputable abbrev r_conversion_eval_1 : RD := r1 vBool
noncomputable abbrev r_conversion_steps_slope : RD := r1M (vAgg dGRatio) (mBox 1000 1 ty_conversion_steps dGconversionSteps)
noncomputable abbrev r_ratio_Mul : RD := rT (lCons (vAgg dGRatio) (lOne (vI .i64)))
noncomputable abbrev r_ref01_Valid : RD := r1 vBool
noncomputable abbrev r_ref01_total : RD := rT (lCons vBool (lOne (vAgg dGref01Wide)))
noncomputable abbrev r_ref01_Product : RD := r1 (vAgg dGref01Wide)
noncomputable abbrev r_ref01_Size : RD := r1 (vI .u64)
noncomputable abbrev r_ratio_rounded : RD := r1 (vI .i64)
noncomputable abbrev r_ratio_toRound : RD := r1 (vI .i64)
noncomputable abbrev r_slices_pdqsortCmpFunc_api_Ratio : RD := r0M (mRow 1000 2 ty_api_Ratio dGRatio)
noncomputable abbrev r_bits_Len : RD := r1 (vI .i64)
noncomputable abbrev r_ratio_signedProduct : RD := r1 (vAgg dGratioSigned)
noncomputable abbrev r_ratio_wide_compare : RD := r1 (vI .i64)
noncomputable abbrev r_ratio_signed_plus : RD := r1 (vAgg dGratioSigned)
noncomputable abbrev r_ratio_wide_mod : RD := r1 (vI .u64)
noncomputable abbrev r_ratio_fitted : RD := rT (lCons (vAgg dGRatio) (lOne (vI .i64)))
noncomputable abbrev r_ratio_wide_over : RD := r1 (vAgg dGratioWide)
noncomputable abbrev r_ratio_product : RD := r1 (vAgg dGratioWide)
noncomputable abbrev r_ratio_Div : RD := rT (lCons (vAgg dGRatio) (lOne (vI .i64)))
noncomputable abbrev r_ref01_Divisor : RD := r1 (vAgg dGref01Wide)
noncomputable abbrev r_ref01_Plus : RD := r1 (vAgg dGref01Wide)
noncomputable abbrev r_ref01_Order : RD := r1 (vI .i64)
noncomputable abbrev r_ref01_Minus : RD := r1 (vAgg dGref01Wide)
noncomputable abbrev r_bits_Mul64 : RD := rT (lCons (vI .u64) (lOne (vI .u64)))
noncomputable abbrev r_slices_insertionSortCmpFunc_api_Ratio : RD := r0M (mRow 1000 2 ty_api_Ratio dGRatio)
noncomputable abbrev r_slices_heapSortCmpFunc_api_Ratio : RD := r0M (mRow 1000 2 ty_api_Ratio dGRatio)
noncomputable abbrev r_slices_breakPatternsCmpFunc_api_Ratio : RD := r0M (mRow 1000 2 ty_api_Ratio dGRatio)
noncomputable abbrev r_slices_choosePivotCmpFunc_api_Ratio : RD := rT (lCons (vI .i64) (lOne (vI .i64)))
noncomputable abbrev r_slices_reverseRangeCmpFunc_api_Ratio : RD := r0M (mRow 1000 2 ty_api_Ratio dGRatio)
noncomputable abbrev r_slices_partialInsertionSortCmpFunc_api_Ratio : RD := r1M vBool (mRow 1000 2 ty_api_Ratio dGRatio)
noncomputable abbrev r_slices_partitionEqualCmpFunc_api_Ratio : RD := r1M (vI .i64) (mRow 1000 2 ty_api_Ratio dGRatio)
noncomputable abbrev r_slices_partitionCmpFunc_api_Ratio : RD := rTM (lCons (vI .i64) (lOne vBool)) (mRow 1000 2 ty_api_Ratio dGRatio)
noncomputable abbrev r_bits_Len32 : RD := r1 (vI .i64)
noncomputable abbrev r_bits_Len64 : RD := r1 (vI .i64)
noncomputable abbrev r_cmp_Compare_uint64 : RD := r1 (vI .i64)
noncomputable abbrev r_ratio_wide_plus : RD := r1 (vAgg dGratioWide)
noncomputable abbrev r_ratio_wide_minus : RD := r1 (vAgg dGratioWide)
noncomputable abbrev r_bits_Rem64 : RD := r1 (vI .u64)
noncomputable abbrev r_bits_Div64 : RD := rT (lCons (vI .u64) (lOne (vI .u64)))
noncomputable abbrev r_ref01_Divide : RD := rT (lCons (vAgg dGref01Wide) (lOne (vAgg dGref01Wide)))
noncomputable abbrev r_slices_siftDownCmpFunc_api_Ratio : RD := r0M (mRow 1000 2 ty_api_Ratio dGRatio)
noncomputable abbrev r_slices_nextPowerOfTwo : RD := r1 (vI .u64)
noncomputable abbrev r_slices_xorshift_Next : RD := r1M (vI .u64) (mBox 1000 1 ty_slices_xorshift dI_u64)
noncomputable abbrev r_slices_medianAdjacentCmpFunc_api_Ratio : RD := r1M (vI .i64) (mBox 1002 1 ty_i64_2 dI_i64)
noncomputable abbrev r_slices_medianCmpFunc_api_Ratio : RD := r1M (vI .i64) (mBox 1004 1 ty_i64_2 dI_i64)
noncomputable abbrev r_cmp_isNaN_uint64 : RD := r1 vBool
noncomputable abbrev r_bits_LeadingZeros64 : RD := r1 (vI .i64)
noncomputable abbrev r_ref01_Twice : RD := r1 (vAgg dGref01Wide)
noncomputable abbrev r_slices_order2CmpFunc_api_Ratio : RD := rTM (lCons (vI .i64) (lOne (vI .i64))) (mBox 1003 1 ty_i64_2 dI_i64)
noncomputable def resTab : List RD := [rRaw, rRaw, rRaw, r_law33_ConversionRises, r_law33_ConversionMarks, r_law33_ConversionComposes, r_law33_ConversionInverse, r_mark_Light, r_law33_sane, r_mark_Roll, r_mark_Dice_Curve, r_conversion_Normal, r_conversion_Same, r_conversion_Valid, r_conversion_Eval, r_mark_Dice_Ratio, r_ref01_Less, r_conversion_Convert, r_law33_whole, r_conversion_Compose, r_conversion_Line, r_conversion_Inverse, r_mark_Dice_Next, r_conversion_normal, r_slices_Equal_api_Point_api_Point, r_conversion_ascending, r_ratio_Valid, r_conversion_eval, r_ref01_Compare, r_conversion_whole, r_ratio_Round, r_conversion_exchanged, r_slices_SortFunc_api_Ratio_api_Ratio, r_ratio_Compare, r_slices_Compact_api_Ratio_api_Ratio, r_ratio_Add, r_conversion_bends, r_conversion_steps_do, r_ratio_Sub, r_conversion_pointAt, r_ratio_Less, r_ratio_gcd, r_ratio_magnitude, r_sort_Search, r_conversion_eval_1, r_conversion_steps_slope, r_ratio_Mul, r_ref01_Valid, r_ref01_total, r_ref01_Product, r_ref01_Size, r_ratio_rounded, r_ratio_toRound, r_slices_pdqsortCmpFunc_api_Ratio, r_bits_Len, r_ratio_signedProduct, r_ratio_wide_compare, r_ratio_signed_plus, r_ratio_wide_mod, r_ratio_fitted, r_ratio_wide_over, r_ratio_product, r_ratio_Div, r_ref01_Divisor, r_ref01_Plus, r_ref01_Order, r_ref01_Minus, r_bits_Mul64, r_slices_insertionSortCmpFunc_api_Ratio, r_slices_heapSortCmpFunc_api_Ratio, r_slices_breakPatternsCmpFunc_api_Ratio, r_slices_choosePivotCmpFunc_api_Ratio, r_slices_reverseRangeCmpFunc_api_Ratio, r_slices_partialInsertionSortCmpFunc_api_Ratio, r_slices_partitionEqualCmpFunc_api_Ratio, r_slices_partitionCmpFunc_api_Ratio, r_bits_Len32, r_bits_Len64, r_cmp_Compare_uint64, r_ratio_wide_plus, r_ratio_wide_minus, r_bits_Rem64, r_bits_Div64, r_ref01_Divide, rRaw, rRaw, r_slices_siftDownCmpFunc_api_Ratio, r_slices_nextPowerOfTwo, r_slices_xorshift_Next, r_slices_medianAdjacentCmpFunc_api_Ratio, r_slices_medianCmpFunc_api_Ratio, r_cmp_isNaN_uint64, r_bits_LeadingZeros64, r_ref01_Twice, r_slices_order2CmpFunc_api_Ratio, rRaw, rRaw, rRaw, rRaw, rRaw, rRaw, rRaw, rRaw, rRaw, rRaw, rRaw, rRaw, rRaw, rRaw, rRaw, rRaw, rRaw, rRaw]
noncomputable def zT : Dic := Dic.of tyTab resTab
noncomputable abbrev R_law33_ConversionRises : Fr := ⟨Try.prog, zC, zA, 3, Try.f3, []⟩
noncomputable abbrev R_law33_ConversionMarks : Fr := ⟨Try.prog, zC, zA, 4, Try.f4, []⟩
noncomputable abbrev R_law33_ConversionComposes : Fr := ⟨Try.prog, zC, zA, 5, Try.f5, []⟩
noncomputable abbrev R_law33_ConversionInverse : Fr := ⟨Try.prog, zC, zA, 6, Try.f6, []⟩
noncomputable abbrev R_mark_Light : Fr := ⟨Try.prog, zC, zA, 7, Try.f7, []⟩
noncomputable abbrev R_law33_sane : Fr := ⟨Try.prog, zC, zA, 8, Try.f8, []⟩
noncomputable abbrev R_mark_Roll : Fr := ⟨Try.prog, zC, zA, 9, Try.f9, []⟩
noncomputable abbrev R_mark_Dice_Curve : Fr := ⟨Try.prog, zC, zA, 10, Try.f10, [(1000, ⟨0, 0, [], false⟩)]⟩
noncomputable abbrev R_conversion_Normal : Fr := ⟨Try.prog, zC, zA, 11, Try.f11, []⟩
noncomputable abbrev R_conversion_Same : Fr := ⟨Try.prog, zC, zA, 12, Try.f12, []⟩
noncomputable abbrev R_conversion_Valid : Fr := ⟨Try.prog, zC, zA, 13, Try.f13, []⟩
noncomputable abbrev R_conversion_Eval : Fr := ⟨Try.prog, zC, zA, 14, Try.f14, []⟩
noncomputable abbrev R_mark_Dice_Ratio : Fr := ⟨Try.prog, zC, zA, 15, Try.f15, [(1000, ⟨0, 0, [], false⟩)]⟩
noncomputable abbrev R_ref01_Less : Fr := ⟨Try.prog, zC, zA, 16, Try.f16, []⟩
noncomputable abbrev R_conversion_Convert : Fr := ⟨Try.prog, zC, zA, 17, Try.f17, []⟩
noncomputable abbrev R_law33_whole : Fr := ⟨Try.prog, zC, zA, 18, Try.f18, []⟩
noncomputable abbrev R_conversion_Compose : Fr := ⟨Try.prog, zC, zA, 19, Try.f19, []⟩
noncomputable abbrev R_conversion_Line : Fr := ⟨Try.prog, zC, zA, 20, Try.f20, []⟩
noncomputable abbrev R_conversion_Inverse : Fr := ⟨Try.prog, zC, zA, 21, Try.f21, []⟩
noncomputable abbrev R_mark_Dice_Next : Fr := ⟨Try.prog, zC, zA, 22, Try.f22, [(1000, ⟨0, 0, [], false⟩)]⟩
noncomputable abbrev R_conversion_normal : Fr := ⟨Try.prog, zC, zA, 23, Try.f23, []⟩
noncomputable abbrev R_slices_Equal_api_Point_api_Point : Fr := ⟨Try.prog, zC, zA, 24, Try.f24, []⟩
noncomputable abbrev R_conversion_ascending : Fr := ⟨Try.prog, zC, zA, 25, Try.f25, []⟩
noncomputable abbrev R_ratio_Valid : Fr := ⟨Try.prog, zC, zA, 26, Try.f26, []⟩
noncomputable abbrev R_conversion_eval : Fr := ⟨Try.prog, zC, zA, 27, Try.f27, []⟩
noncomputable abbrev R_ref01_Compare : Fr := ⟨Try.prog, zC, zA, 28, Try.f28, []⟩
noncomputable abbrev R_conversion_whole : Fr := ⟨Try.prog, zC, zA, 29, Try.f29, []⟩
noncomputable abbrev R_ratio_Round : Fr := ⟨Try.prog, zC, zA, 30, Try.f30, []⟩
noncomputable abbrev R_conversion_exchanged : Fr := ⟨Try.prog, zC, zA, 31, Try.f31, []⟩
noncomputable abbrev R_slices_SortFunc_api_Ratio_api_Ratio : Fr := ⟨Try.prog, zC, zA, 32, Try.f32, [(1000, ⟨0, 0, [], false⟩)]⟩
noncomputable abbrev R_ratio_Compare : Fr := ⟨Try.prog, zC, zA, 33, Try.f33, []⟩
noncomputable abbrev R_slices_Compact_api_Ratio_api_Ratio : Fr := ⟨Try.prog, zC, zA, 34, Try.f34, [(1000, ⟨0, 0, [], false⟩)]⟩
noncomputable abbrev R_ratio_Add : Fr := ⟨Try.prog, zC, zA, 35, Try.f35, []⟩
noncomputable abbrev R_conversion_bends : Fr := ⟨Try.prog, zC, zA, 36, Try.f36, []⟩
noncomputable abbrev R_conversion_steps_do : Fr := ⟨Try.prog, zC, zA, 37, Try.f37, [(1000, ⟨0, 0, [], false⟩)]⟩
noncomputable abbrev R_ratio_Sub : Fr := ⟨Try.prog, zC, zA, 38, Try.f38, []⟩
noncomputable abbrev R_conversion_pointAt : Fr := ⟨Try.prog, zC, zA, 39, Try.f39, []⟩
noncomputable abbrev R_ratio_Less : Fr := ⟨Try.prog, zC, zA, 40, Try.f40, []⟩
noncomputable abbrev R_ratio_gcd : Fr := ⟨Try.prog, zC, zA, 41, Try.f41, []⟩
noncomputable abbrev R_ratio_magnitude : Fr := ⟨Try.prog, zC, zA, 42, Try.f42, []⟩
noncomputable abbrev R_sort_Search : Fr := ⟨Try.prog, zC, zA, 43, Try.f43, []⟩
noncomputable abbrev R_conversion_eval_1 : Fr := ⟨Try.prog, zC, zA, 44, Try.f44, []⟩
noncomputable abbrev R_conversion_steps_slope : Fr := ⟨Try.prog, zC, zA, 45, Try.f45, [(1000, ⟨0, 0, [], false⟩)]⟩
noncomputable abbrev R_ratio_Mul : Fr := ⟨Try.prog, zC, zA, 46, Try.f46, []⟩
noncomputable abbrev R_ref01_Valid : Fr := ⟨Try.prog, zC, zA, 47, Try.f47, []⟩
noncomputable abbrev R_ref01_total : Fr := ⟨Try.prog, zC, zA, 48, Try.f48, []⟩
noncomputable abbrev R_ref01_Product : Fr := ⟨Try.prog, zC, zA, 49, Try.f49, []⟩
noncomputable abbrev R_ref01_Size : Fr := ⟨Try.prog, zC, zA, 50, Try.f50, []⟩
noncomputable abbrev R_ratio_rounded : Fr := ⟨Try.prog, zC, zA, 51, Try.f51, []⟩
noncomputable abbrev R_ratio_toRound : Fr := ⟨Try.prog, zC, zA, 52, Try.f52, []⟩
noncomputable abbrev R_slices_pdqsortCmpFunc_api_Ratio : Fr := ⟨Try.prog, zC, zA, 53, Try.f53, [(1000, ⟨0, 0, [], false⟩)]⟩
noncomputable abbrev R_bits_Len : Fr := ⟨Try.prog, zC, zA, 54, Try.f54, []⟩
noncomputable abbrev R_ratio_signedProduct : Fr := ⟨Try.prog, zC, zA, 55, Try.f55, []⟩
noncomputable abbrev R_ratio_wide_compare : Fr := ⟨Try.prog, zC, zA, 56, Try.f56, []⟩
noncomputable abbrev R_ratio_signed_plus : Fr := ⟨Try.prog, zC, zA, 57, Try.f57, []⟩
noncomputable abbrev R_ratio_wide_mod : Fr := ⟨Try.prog, zC, zA, 58, Try.f58, []⟩
noncomputable abbrev R_ratio_fitted : Fr := ⟨Try.prog, zC, zA, 59, Try.f59, []⟩
noncomputable abbrev R_ratio_wide_over : Fr := ⟨Try.prog, zC, zA, 60, Try.f60, []⟩
noncomputable abbrev R_ratio_product : Fr := ⟨Try.prog, zC, zA, 61, Try.f61, []⟩
noncomputable abbrev R_ratio_Div : Fr := ⟨Try.prog, zC, zA, 62, Try.f62, []⟩
noncomputable abbrev R_ref01_Divisor : Fr := ⟨Try.prog, zC, zA, 63, Try.f63, []⟩
noncomputable abbrev R_ref01_Plus : Fr := ⟨Try.prog, zC, zA, 64, Try.f64, []⟩
noncomputable abbrev R_ref01_Order : Fr := ⟨Try.prog, zC, zA, 65, Try.f65, []⟩
noncomputable abbrev R_ref01_Minus : Fr := ⟨Try.prog, zC, zA, 66, Try.f66, []⟩
noncomputable abbrev R_bits_Mul64 : Fr := ⟨Try.prog, zC, zA, 67, Try.f67, []⟩
noncomputable abbrev R_slices_insertionSortCmpFunc_api_Ratio : Fr := ⟨Try.prog, zC, zA, 68, Try.f68, [(1000, ⟨0, 0, [], false⟩)]⟩
noncomputable abbrev R_slices_heapSortCmpFunc_api_Ratio : Fr := ⟨Try.prog, zC, zA, 69, Try.f69, [(1000, ⟨0, 0, [], false⟩)]⟩
noncomputable abbrev R_slices_breakPatternsCmpFunc_api_Ratio : Fr := ⟨Try.prog, zC, zA, 70, Try.f70, [(1000, ⟨0, 0, [], false⟩)]⟩
noncomputable abbrev R_slices_choosePivotCmpFunc_api_Ratio : Fr := ⟨Try.prog, zC, zA, 71, Try.f71, []⟩
noncomputable abbrev R_slices_reverseRangeCmpFunc_api_Ratio : Fr := ⟨Try.prog, zC, zA, 72, Try.f72, [(1000, ⟨0, 0, [], false⟩)]⟩
noncomputable abbrev R_slices_partialInsertionSortCmpFunc_api_Ratio : Fr := ⟨Try.prog, zC, zA, 73, Try.f73, [(1000, ⟨0, 0, [], false⟩)]⟩
noncomputable abbrev R_slices_partitionEqualCmpFunc_api_Ratio : Fr := ⟨Try.prog, zC, zA, 74, Try.f74, [(1000, ⟨0, 0, [], false⟩)]⟩
noncomputable abbrev R_slices_partitionCmpFunc_api_Ratio : Fr := ⟨Try.prog, zC, zA, 75, Try.f75, [(1000, ⟨0, 0, [], false⟩)]⟩
noncomputable abbrev R_bits_Len32 : Fr := ⟨Try.prog, zC, zA, 76, Try.f76, []⟩
noncomputable abbrev R_bits_Len64 : Fr := ⟨Try.prog, zC, zA, 77, Try.f77, []⟩
noncomputable abbrev R_cmp_Compare_uint64 : Fr := ⟨Try.prog, zC, zA, 78, Try.f78, []⟩
noncomputable abbrev R_ratio_wide_plus : Fr := ⟨Try.prog, zC, zA, 79, Try.f79, []⟩
noncomputable abbrev R_ratio_wide_minus : Fr := ⟨Try.prog, zC, zA, 80, Try.f80, []⟩
noncomputable abbrev R_bits_Rem64 : Fr := ⟨Try.prog, zC, zA, 81, Try.f81, []⟩
noncomputable abbrev R_bits_Div64 : Fr := ⟨Try.prog, zC, zA, 82, Try.f82, []⟩
noncomputable abbrev R_ref01_Divide : Fr := ⟨Try.prog, zC, zA, 83, Try.f83, []⟩
noncomputable abbrev R_slices_siftDownCmpFunc_api_Ratio : Fr := ⟨Try.prog, zC, zA, 86, Try.f86, [(1000, ⟨0, 0, [], false⟩)]⟩
noncomputable abbrev R_slices_nextPowerOfTwo : Fr := ⟨Try.prog, zC, zA, 87, Try.f87, []⟩
noncomputable abbrev R_slices_xorshift_Next : Fr := ⟨Try.prog, zC, zA, 88, Try.f88, [(1000, ⟨0, 0, [], false⟩)]⟩
noncomputable abbrev R_slices_medianAdjacentCmpFunc_api_Ratio : Fr := ⟨Try.prog, zC, zA, 89, Try.f89, [(1002, ⟨0, 0, [], false⟩)]⟩
noncomputable abbrev R_slices_medianCmpFunc_api_Ratio : Fr := ⟨Try.prog, zC, zA, 90, Try.f90, [(1004, ⟨0, 0, [], false⟩)]⟩
noncomputable abbrev R_cmp_isNaN_uint64 : Fr := ⟨Try.prog, zC, zA, 91, Try.f91, []⟩
noncomputable abbrev R_bits_LeadingZeros64 : Fr := ⟨Try.prog, zC, zA, 92, Try.f92, []⟩
noncomputable abbrev R_ref01_Twice : Fr := ⟨Try.prog, zC, zA, 93, Try.f93, []⟩
noncomputable abbrev R_slices_order2CmpFunc_api_Ratio : Fr := ⟨Try.prog, zC, zA, 94, Try.f94, [(1003, ⟨0, 0, [], false⟩)]⟩
noncomputable abbrev cw : Calling := callw Try.prog zC zA
end Go.Proofs.Ytiienbfdcgipnaa
