/- What the functions compute, between two cut points: printed by a program, checked by the kernel. -/
import Derived.Test.YtohpjbokhcifbaaAnn
namespace Go.Proofs.Ytohpjbokhcifbaa
open Go.Ab
set_option maxRecDepth 100000
set_option linter.unusedVariables false

noncomputable def k_ref01_Divide_1 (a0 : Gref01Wide) (a1 : Gref01Wide) (x0 : Gref01Wide) (x1 : Gref01Wide) (x2 : Int) : Option (AV × Mem) := pt R_ref01_Divide 1 ⟨[(2, .loc 2 2 0 0), (3, .loc 3 2 0 0), (4, .loc 4 2 0 0), (5, .loc 5 2 0 0), (6, .loc 6 2 0 0), (7, .loc 7 2 0 0), (8, I x2)], [(2, ⟨2, ty_ref01_Wide, [dGref01Wide.enc a0], true⟩), (3, ⟨2, ty_ref01_Wide, [dGref01Wide.enc a1], true⟩), (4, ⟨2, ty_ref01_Wide, [dGref01Wide.enc (⟨0, 0⟩)], true⟩), (5, ⟨2, ty_ref01_Wide, [dGref01Wide.enc (⟨0, 0⟩)], true⟩), (6, ⟨2, ty_ref01_Wide, [dGref01Wide.enc x0], true⟩), (7, ⟨2, ty_ref01_Wide, [dGref01Wide.enc x1], true⟩)]⟩

noncomputable def k_ref01_Divide_1010 (a0 : Gref01Wide) (a1 : Gref01Wide) (x0 : Gref01Wide) (x1 : Gref01Wide) (x2 : Int) : Option (AV × Mem) := pt R_ref01_Divide 1010 ⟨[(2, .loc 2 2 0 0), (3, .loc 3 2 0 0), (4, .loc 4 2 0 0), (5, .loc 5 2 0 0), (6, .loc 6 2 0 0), (7, .loc 7 2 0 0), (8, I x2), (9, .v (.int .u64 (wu64 (↑((a0.Hi.fdiv (2 ^ Min.min (wu64 (w64 (x2 - 64))).toNat 64) % Int.ofNat (2 ^ 64)).toNat &&& (1 % Int.ofNat (2 ^ 64)).toNat) : Int))))], [(2, ⟨2, ty_ref01_Wide, [dGref01Wide.enc a0], true⟩), (3, ⟨2, ty_ref01_Wide, [dGref01Wide.enc a1], true⟩), (4, ⟨2, ty_ref01_Wide, [dGref01Wide.enc (⟨0, 0⟩)], true⟩), (5, ⟨2, ty_ref01_Wide, [dGref01Wide.enc (⟨0, 0⟩)], true⟩), (6, ⟨2, ty_ref01_Wide, [dGref01Wide.enc x0], true⟩), (7, ⟨2, ty_ref01_Wide, [dGref01Wide.enc x1], true⟩)]⟩

noncomputable def k_ref01_Divide_1010v1 (a0 : Gref01Wide) (a1 : Gref01Wide) (x0 : Gref01Wide) (x1 : Gref01Wide) (x2 : Int) : Option (AV × Mem) := pt R_ref01_Divide 1010 ⟨[(2, .loc 2 2 0 0), (3, .loc 3 2 0 0), (4, .loc 4 2 0 0), (5, .loc 5 2 0 0), (6, .loc 6 2 0 0), (7, .loc 7 2 0 0), (8, I x2), (9, .v (.int .u64 (wu64 (↑((a0.Lo.fdiv (2 ^ Min.min (wu64 (x2.tmod 64)).toNat 64) % Int.ofNat (2 ^ 64)).toNat &&& (1 % Int.ofNat (2 ^ 64)).toNat) : Int)))), (45, B false)], [(2, ⟨2, ty_ref01_Wide, [dGref01Wide.enc a0], true⟩), (3, ⟨2, ty_ref01_Wide, [dGref01Wide.enc a1], true⟩), (4, ⟨2, ty_ref01_Wide, [dGref01Wide.enc (⟨0, 0⟩)], true⟩), (5, ⟨2, ty_ref01_Wide, [dGref01Wide.enc (⟨0, 0⟩)], true⟩), (6, ⟨2, ty_ref01_Wide, [dGref01Wide.enc x0], true⟩), (7, ⟨2, ty_ref01_Wide, [dGref01Wide.enc x1], true⟩)]⟩

noncomputable def k_ref01_Divide_1015 (a0 : Gref01Wide) (a1 : Gref01Wide) (x2 : Int) (x5 : Gref01Wide) (x6 : Gref01Wide) : Option (AV × Mem) := pt R_ref01_Divide 1015 ⟨[(2, .loc 2 2 0 0), (3, .loc 3 2 0 0), (4, .loc 4 2 0 0), (5, .loc 5 2 0 0), (6, .loc 6 2 0 0), (7, .loc 7 2 0 0), (8, I x2), (72, B true)], [(2, ⟨2, ty_ref01_Wide, [dGref01Wide.enc a0], true⟩), (3, ⟨2, ty_ref01_Wide, [dGref01Wide.enc a1], true⟩), (4, ⟨2, ty_ref01_Wide, [dGref01Wide.enc (⟨0, 0⟩)], true⟩), (5, ⟨2, ty_ref01_Wide, [dGref01Wide.enc (⟨0, 0⟩)], true⟩), (6, ⟨2, ty_ref01_Wide, [dGref01Wide.enc x5], true⟩), (7, ⟨2, ty_ref01_Wide, [dGref01Wide.enc x6], true⟩)]⟩

theorem t_ref01_Divide_1 (a0 : Gref01Wide) (a1 : Gref01Wide) (x0 : Gref01Wide) (x1 : Gref01Wide) (x2 : Int) {y : AV × Mem} (h : (
  brn (decide (0 ≤ x2)) (chk ((64 : Int) ≠ 0) <|
   chk ((0 : Int) ≤ (wu64 (x2.tmod 64))) <|
   brn (decide (64 ≤ x2)) (chk ((0 : Int) ≤ (wu64 (w64 (x2 - 64)))) <|
    k_ref01_Divide_1010 a0 a1 x0 x1 x2)
   (k_ref01_Divide_1010v1 a0 a1 x0 x1 x2))
  (some (.tup [.agg (dGref01Wide.enc x0), .agg (dGref01Wide.enc x1)], []))) = some y) : k_ref01_Divide_1 a0 a1 x0 x1 x2 = some y :=
  pt_of zT [15, 10] (by kernel_rfl) h

theorem t_ref01_Divide_1010 (a0 : Gref01Wide) (a1 : Gref01Wide) (x0 : Gref01Wide) (x1 : Gref01Wide) (x2 : Int) {y : AV × Mem} (h : (
  chk ((0 : Int) ≤ 63) <|
  callD r_ref01_Twice (cw f_ref01_Twice [.agg (dGref01Wide.enc x1)] []) fun (r3 : Gref01Wide) =>
  callD r_ref01_Twice (cw f_ref01_Twice [.agg (dGref01Wide.enc x0)] []) fun (r4 : Gref01Wide) =>
  brn (x1.Hi.fdiv (2 ^ Min.min (Int.toNat 63) 64) == 1) (k_ref01_Divide_1015 a0 a1 x2 r4 (⟨r3.Hi, wu64 (↑((r3.Lo % Int.ofNat (2 ^ 64)).toNat ||| (wu64 (↑((a0.Hi.fdiv (2 ^ Min.min (wu64 (w64 (x2 - 64))).toNat 64) % Int.ofNat (2 ^ 64)).toNat &&& (1 % Int.ofNat (2 ^ 64)).toNat) : Int) % Int.ofNat (2 ^ 64)).toNat) : Int)⟩))
  (callD r_ref01_Order (cw f_ref01_Order [.agg (dGref01Wide.enc (⟨r3.Hi, wu64 (↑((r3.Lo % Int.ofNat (2 ^ 64)).toNat ||| (wu64 (↑((a0.Hi.fdiv (2 ^ Min.min (wu64 (w64 (x2 - 64))).toNat 64) % Int.ofNat (2 ^ 64)).toNat &&& (1 % Int.ofNat (2 ^ 64)).toNat) : Int) % Int.ofNat (2 ^ 64)).toNat) : Int)⟩)), .agg (dGref01Wide.enc a1)] []) fun (r7 : Int) =>
   brn (decide (0 ≤ r7)) (k_ref01_Divide_1015 a0 a1 x2 r4 (⟨r3.Hi, wu64 (↑((r3.Lo % Int.ofNat (2 ^ 64)).toNat ||| (wu64 (↑((a0.Hi.fdiv (2 ^ Min.min (wu64 (w64 (x2 - 64))).toNat 64) % Int.ofNat (2 ^ 64)).toNat &&& (1 % Int.ofNat (2 ^ 64)).toNat) : Int) % Int.ofNat (2 ^ 64)).toNat) : Int)⟩))
   (k_ref01_Divide_1 a0 a1 r4 (⟨r3.Hi, wu64 (↑((r3.Lo % Int.ofNat (2 ^ 64)).toNat ||| (wu64 (↑((a0.Hi.fdiv (2 ^ Min.min (wu64 (w64 (x2 - 64))).toNat 64) % Int.ofNat (2 ^ 64)).toNat &&& (1 % Int.ofNat (2 ^ 64)).toNat) : Int) % Int.ofNat (2 ^ 64)).toNat) : Int)⟩) (w64 (x2 - 1))))) = some y) : k_ref01_Divide_1010 a0 a1 x0 x1 x2 = some y :=
  pt_of zT [15, 10] (by kernel_rfl) h

theorem t_ref01_Divide_1010v1 (a0 : Gref01Wide) (a1 : Gref01Wide) (x0 : Gref01Wide) (x1 : Gref01Wide) (x2 : Int) {y : AV × Mem} (h : (
  chk ((0 : Int) ≤ 63) <|
  callD r_ref01_Twice (cw f_ref01_Twice [.agg (dGref01Wide.enc x1)] []) fun (r8 : Gref01Wide) =>
  callD r_ref01_Twice (cw f_ref01_Twice [.agg (dGref01Wide.enc x0)] []) fun (r9 : Gref01Wide) =>
  brn (x1.Hi.fdiv (2 ^ Min.min (Int.toNat 63) 64) == 1) (k_ref01_Divide_1015 a0 a1 x2 r9 (⟨r8.Hi, wu64 (↑((r8.Lo % Int.ofNat (2 ^ 64)).toNat ||| (wu64 (↑((a0.Lo.fdiv (2 ^ Min.min (wu64 (x2.tmod 64)).toNat 64) % Int.ofNat (2 ^ 64)).toNat &&& (1 % Int.ofNat (2 ^ 64)).toNat) : Int) % Int.ofNat (2 ^ 64)).toNat) : Int)⟩))
  (callD r_ref01_Order (cw f_ref01_Order [.agg (dGref01Wide.enc (⟨r8.Hi, wu64 (↑((r8.Lo % Int.ofNat (2 ^ 64)).toNat ||| (wu64 (↑((a0.Lo.fdiv (2 ^ Min.min (wu64 (x2.tmod 64)).toNat 64) % Int.ofNat (2 ^ 64)).toNat &&& (1 % Int.ofNat (2 ^ 64)).toNat) : Int) % Int.ofNat (2 ^ 64)).toNat) : Int)⟩)), .agg (dGref01Wide.enc a1)] []) fun (r10 : Int) =>
   brn (decide (0 ≤ r10)) (k_ref01_Divide_1015 a0 a1 x2 r9 (⟨r8.Hi, wu64 (↑((r8.Lo % Int.ofNat (2 ^ 64)).toNat ||| (wu64 (↑((a0.Lo.fdiv (2 ^ Min.min (wu64 (x2.tmod 64)).toNat 64) % Int.ofNat (2 ^ 64)).toNat &&& (1 % Int.ofNat (2 ^ 64)).toNat) : Int) % Int.ofNat (2 ^ 64)).toNat) : Int)⟩))
   (k_ref01_Divide_1 a0 a1 r9 (⟨r8.Hi, wu64 (↑((r8.Lo % Int.ofNat (2 ^ 64)).toNat ||| (wu64 (↑((a0.Lo.fdiv (2 ^ Min.min (wu64 (x2.tmod 64)).toNat 64) % Int.ofNat (2 ^ 64)).toNat &&& (1 % Int.ofNat (2 ^ 64)).toNat) : Int) % Int.ofNat (2 ^ 64)).toNat) : Int)⟩) (w64 (x2 - 1))))) = some y) : k_ref01_Divide_1010v1 a0 a1 x0 x1 x2 = some y :=
  pt_of zT [15, 10] (by kernel_rfl) h

theorem t_ref01_Divide_1015 (a0 : Gref01Wide) (a1 : Gref01Wide) (x2 : Int) (x5 : Gref01Wide) (x6 : Gref01Wide) {y : AV × Mem} (h : (
  callD r_ref01_Minus (cw f_ref01_Minus [.agg (dGref01Wide.enc x6), .agg (dGref01Wide.enc a1)] []) fun (r11 : Gref01Wide) =>
  k_ref01_Divide_1 a0 a1 (⟨x5.Hi, wu64 (↑((x5.Lo % Int.ofNat (2 ^ 64)).toNat ||| (1 % Int.ofNat (2 ^ 64)).toNat) : Int)⟩) r11 (w64 (x2 - 1))) = some y) : k_ref01_Divide_1015 a0 a1 x2 x5 x6 = some y :=
  pt_of zT [15, 10] (by kernel_rfl) h

theorem e_ref01_Divide (a0 : Gref01Wide) (a1 : Gref01Wide) {y : AV × Mem} (h : (
  brn (a0.Hi == 0) (brn (a1.Hi == 0) (chk ((a1.Lo : Int) ≠ 0) <|
    chk ((a1.Lo : Int) ≠ 0) <|
    some (.tup [.agg (dGref01Wide.enc (⟨0, wu64 (a0.Lo.tdiv a1.Lo)⟩)), .agg (dGref01Wide.enc (⟨0, a0.Lo.tmod a1.Lo⟩))], []))
   (k_ref01_Divide_1 a0 a1 (⟨0, 0⟩) (⟨0, 0⟩) 127))
  (k_ref01_Divide_1 a0 a1 (⟨0, 0⟩) (⟨0, 0⟩) 127)) = some y) : cw f_ref01_Divide [.agg (dGref01Wide.enc a0), .agg (dGref01Wide.enc a1)] [] = some y :=
  callw_tree R_ref01_Divide zT [15, 10] (by kernel_rfl) (by kernel_rfl) (by kernel_rfl) (by kernel_rfl) (by kernel_rfl) h

noncomputable def k_slices_siftDownCmpFunc_int_1 (a0 : List Int) (a2 : Int) (a3 : Int) (s : List GRatio) (x0 : List (List AV)) (x1 : Int) : Option (AV × Mem) := pt R_slices_siftDownCmpFunc_int 1 ⟨[(0, .row 1000 1 0 ((List.map dI_i64.enc a0).length)), (2, I a2), (3, I a3), (4, .fn f_severity_Rank_1 [.fa 2 (List.map dGRatio.enc s)]), (10, I x1)], [(1000, ⟨1, ty_i64_2, x0, false⟩)]⟩

noncomputable def k_slices_siftDownCmpFunc_int_1005 (a0 : List Int) (a2 : Int) (a3 : Int) (s : List GRatio) (x0 : List (List AV)) (x1 : Int) : Option (AV × Mem) := pt R_slices_siftDownCmpFunc_int 1005 ⟨[(0, .row 1000 1 0 ((List.map dI_i64.enc a0).length)), (2, I a2), (3, I a3), (4, .fn f_severity_Rank_1 [.fa 2 (List.map dGRatio.enc s)]), (10, I x1), (11, I (w64 (w64 (w64 (2 * x1) + 1) + 1)))], [(1000, ⟨1, ty_i64_2, x0, false⟩)]⟩

noncomputable def k_slices_siftDownCmpFunc_int_1005v1 (a0 : List Int) (a2 : Int) (a3 : Int) (s : List GRatio) (x0 : List (List AV)) (x1 : Int) : Option (AV × Mem) := pt R_slices_siftDownCmpFunc_int 1005 ⟨[(0, .row 1000 1 0 ((List.map dI_i64.enc a0).length)), (2, I a2), (3, I a3), (4, .fn f_severity_Rank_1 [.fa 2 (List.map dGRatio.enc s)]), (10, I x1), (11, I (w64 (w64 (2 * x1) + 1))), (40, B false)], [(1000, ⟨1, ty_i64_2, x0, false⟩)]⟩

theorem t_slices_siftDownCmpFunc_int_1 (a0 : List Int) (a2 : Int) (a3 : Int) (s : List GRatio) (x0 : List (List AV)) (x1 : Int) {y : AV × Mem} (h : (
  brn (decide (a2 ≤ w64 (w64 (2 * x1) + 1))) (some (.tup [], [(1000, ⟨1, ty_i64_2, x0, false⟩)]))
  (brn (decide (w64 (w64 (w64 (2 * x1) + 1) + 1) < a2)) (chk ((0 : Int) ≤ (w64 (a3 + w64 (w64 (2 * x1) + 1)))) <|
    chk ((w64 (a3 + w64 (w64 (2 * x1) + 1)) : Int) < ((↑(List.map dI_i64.enc a0).length : Int))) <|
    elemD dI_i64 x0 (0 + (w64 (a3 + w64 (w64 (2 * x1) + 1))).toNat) fun (c2 : Int) =>
    chk ((0 : Int) ≤ (w64 (w64 (a3 + w64 (w64 (2 * x1) + 1)) + 1))) <|
    chk ((w64 (w64 (a3 + w64 (w64 (2 * x1) + 1)) + 1) : Int) < ((↑(List.map dI_i64.enc a0).length : Int))) <|
    elemD dI_i64 x0 (0 + (w64 (w64 (a3 + w64 (w64 (2 * x1) + 1)) + 1)).toNat) fun (c3 : Int) =>
    callD r_severity_Rank_1 (cw f_severity_Rank_1 [I c2, I c3, .fa 2 (List.map dGRatio.enc s)] []) fun (r4 : Int) =>
    brn (decide (r4 < 0)) (k_slices_siftDownCmpFunc_int_1005 a0 a2 a3 s x0 x1)
    (k_slices_siftDownCmpFunc_int_1005v1 a0 a2 a3 s x0 x1))
   (k_slices_siftDownCmpFunc_int_1005v1 a0 a2 a3 s x0 x1))) = some y) : k_slices_siftDownCmpFunc_int_1 a0 a2 a3 s x0 x1 = some y :=
  pt_of zT [5] (by kernel_rfl) h

theorem t_slices_siftDownCmpFunc_int_1005 (a0 : List Int) (a2 : Int) (a3 : Int) (s : List GRatio) (x0 : List (List AV)) (x1 : Int) {y : AV × Mem} (h : (
  chk ((0 : Int) ≤ (w64 (a3 + x1))) <|
  chk ((w64 (a3 + x1) : Int) < ((↑(List.map dI_i64.enc a0).length : Int))) <|
  elemD dI_i64 x0 (0 + (w64 (a3 + x1)).toNat) fun (c5 : Int) =>
  chk ((0 : Int) ≤ (w64 (a3 + w64 (w64 (w64 (2 * x1) + 1) + 1)))) <|
  chk ((w64 (a3 + w64 (w64 (w64 (2 * x1) + 1) + 1)) : Int) < ((↑(List.map dI_i64.enc a0).length : Int))) <|
  elemD dI_i64 x0 (0 + (w64 (a3 + w64 (w64 (w64 (2 * x1) + 1) + 1))).toNat) fun (c6 : Int) =>
  callD r_severity_Rank_1 (cw f_severity_Rank_1 [I c5, I c6, .fa 2 (List.map dGRatio.enc s)] []) fun (r7 : Int) =>
  brn (!decide (r7 < 0)) (some (.tup [], [(1000, ⟨1, ty_i64_2, x0, false⟩)]))
  (chk ((0 : Int) ≤ (w64 (a3 + w64 (w64 (w64 (2 * x1) + 1) + 1)))) <|
   chk ((w64 (a3 + w64 (w64 (w64 (2 * x1) + 1) + 1)) : Int) < ((↑(List.map dI_i64.enc a0).length : Int))) <|
   elemD dI_i64 x0 (0 + (w64 (a3 + w64 (w64 (w64 (2 * x1) + 1) + 1))).toNat) fun (c8 : Int) =>
   chk ((0 : Int) ≤ (w64 (a3 + x1))) <|
   chk ((w64 (a3 + x1) : Int) < ((↑(List.map dI_i64.enc a0).length : Int))) <|
   elemD dI_i64 x0 (0 + (w64 (a3 + x1)).toNat) fun (c9 : Int) =>
   chk ((0 : Int) ≤ (w64 (a3 + x1))) <|
   chk ((w64 (a3 + x1) : Int) < ((↑(List.map dI_i64.enc a0).length : Int))) <|
   elemD dI_i64 x0 (0 + (w64 (a3 + x1)).toNat) fun (c10 : Int) =>
   chk ((0 : Int) ≤ (w64 (a3 + w64 (w64 (w64 (2 * x1) + 1) + 1)))) <|
   chk ((w64 (a3 + w64 (w64 (w64 (2 * x1) + 1) + 1)) : Int) < ((↑(List.map dI_i64.enc a0).length : Int))) <|
   elemD dI_i64 (List.set x0 (0 + (w64 (a3 + x1)).toNat) (dI_i64.enc c8)) (0 + (w64 (a3 + w64 (w64 (w64 (2 * x1) + 1) + 1))).toNat) fun (c11 : Int) =>
   k_slices_siftDownCmpFunc_int_1 a0 a2 a3 s (List.set (List.set x0 (0 + (w64 (a3 + x1)).toNat) (dI_i64.enc c8)) (0 + (w64 (a3 + w64 (w64 (w64 (2 * x1) + 1) + 1))).toNat) (dI_i64.enc c9)) (w64 (w64 (w64 (2 * x1) + 1) + 1)))) = some y) : k_slices_siftDownCmpFunc_int_1005 a0 a2 a3 s x0 x1 = some y :=
  pt_of zT [5] (by kernel_rfl) h

theorem t_slices_siftDownCmpFunc_int_1005v1 (a0 : List Int) (a2 : Int) (a3 : Int) (s : List GRatio) (x0 : List (List AV)) (x1 : Int) {y : AV × Mem} (h : (
  chk ((0 : Int) ≤ (w64 (a3 + x1))) <|
  chk ((w64 (a3 + x1) : Int) < ((↑(List.map dI_i64.enc a0).length : Int))) <|
  elemD dI_i64 x0 (0 + (w64 (a3 + x1)).toNat) fun (c12 : Int) =>
  chk ((0 : Int) ≤ (w64 (a3 + w64 (w64 (2 * x1) + 1)))) <|
  chk ((w64 (a3 + w64 (w64 (2 * x1) + 1)) : Int) < ((↑(List.map dI_i64.enc a0).length : Int))) <|
  elemD dI_i64 x0 (0 + (w64 (a3 + w64 (w64 (2 * x1) + 1))).toNat) fun (c13 : Int) =>
  callD r_severity_Rank_1 (cw f_severity_Rank_1 [I c12, I c13, .fa 2 (List.map dGRatio.enc s)] []) fun (r14 : Int) =>
  brn (!decide (r14 < 0)) (some (.tup [], [(1000, ⟨1, ty_i64_2, x0, false⟩)]))
  (chk ((0 : Int) ≤ (w64 (a3 + w64 (w64 (2 * x1) + 1)))) <|
   chk ((w64 (a3 + w64 (w64 (2 * x1) + 1)) : Int) < ((↑(List.map dI_i64.enc a0).length : Int))) <|
   elemD dI_i64 x0 (0 + (w64 (a3 + w64 (w64 (2 * x1) + 1))).toNat) fun (c15 : Int) =>
   chk ((0 : Int) ≤ (w64 (a3 + x1))) <|
   chk ((w64 (a3 + x1) : Int) < ((↑(List.map dI_i64.enc a0).length : Int))) <|
   elemD dI_i64 x0 (0 + (w64 (a3 + x1)).toNat) fun (c16 : Int) =>
   chk ((0 : Int) ≤ (w64 (a3 + x1))) <|
   chk ((w64 (a3 + x1) : Int) < ((↑(List.map dI_i64.enc a0).length : Int))) <|
   elemD dI_i64 x0 (0 + (w64 (a3 + x1)).toNat) fun (c17 : Int) =>
   chk ((0 : Int) ≤ (w64 (a3 + w64 (w64 (2 * x1) + 1)))) <|
   chk ((w64 (a3 + w64 (w64 (2 * x1) + 1)) : Int) < ((↑(List.map dI_i64.enc a0).length : Int))) <|
   elemD dI_i64 (List.set x0 (0 + (w64 (a3 + x1)).toNat) (dI_i64.enc c15)) (0 + (w64 (a3 + w64 (w64 (2 * x1) + 1))).toNat) fun (c18 : Int) =>
   k_slices_siftDownCmpFunc_int_1 a0 a2 a3 s (List.set (List.set x0 (0 + (w64 (a3 + x1)).toNat) (dI_i64.enc c15)) (0 + (w64 (a3 + w64 (w64 (2 * x1) + 1))).toNat) (dI_i64.enc c16)) (w64 (w64 (2 * x1) + 1)))) = some y) : k_slices_siftDownCmpFunc_int_1005v1 a0 a2 a3 s x0 x1 = some y :=
  pt_of zT [5] (by kernel_rfl) h

theorem e_slices_siftDownCmpFunc_int (a0 : List Int) (a1 : Int) (a2 : Int) (a3 : Int) (s : List GRatio) {y : AV × Mem} (h : (
  k_slices_siftDownCmpFunc_int_1 a0 a2 a3 s (List.map dI_i64.enc a0) a1) = some y) : cw f_slices_siftDownCmpFunc_int [.row 1000 1 0 (List.length (List.map dI_i64.enc a0)), I a1, I a2, I a3, .fn f_severity_Rank_1 [.fa 2 (List.map dGRatio.enc s)]] [(1000, ⟨1, ty_i64_2, List.map dI_i64.enc a0, false⟩)] = some y :=
  callw_tree R_slices_siftDownCmpFunc_int zT [5] (by kernel_rfl) (by kernel_rfl) (by kernel_rfl) (by kernel_rfl) (by kernel_rfl) h

theorem e_slices_nextPowerOfTwo (a0 : Int) {y : AV × Mem} (h : (
  callD r_bits_Len (cw f_bits_Len [.v (.int .u64 (wu64 a0))] []) fun (r0 : Int) =>
  chk ((0 : Int) ≤ r0) <|
  some (.v (.int .u64 (wu64 (1 * 2 ^ Min.min r0.toNat 64))), [])) = some y) : cw f_slices_nextPowerOfTwo [I a0] [] = some y :=
  callw_tree R_slices_nextPowerOfTwo zT [] (by kernel_rfl) (by kernel_rfl) (by kernel_rfl) (by kernel_rfl) (by kernel_rfl) h

theorem e_slices_xorshift_Next (a0 : Int) {y : AV × Mem} (h : (
  chk ((0 : Int) ≤ 13) <|
  chk ((0 : Int) ≤ 7) <|
  chk ((0 : Int) ≤ 17) <|
  some (.v (.int .u64 (wu64 (↑((wu64 (↑((wu64 (↑((a0 % Int.ofNat (2 ^ 64)).toNat ^^^ (wu64 (a0 * 2 ^ Min.min (Int.toNat 13) 64) % Int.ofNat (2 ^ 64)).toNat) : Int) % Int.ofNat (2 ^ 64)).toNat ^^^ ((wu64 (↑((a0 % Int.ofNat (2 ^ 64)).toNat ^^^ (wu64 (a0 * 2 ^ Min.min (Int.toNat 13) 64) % Int.ofNat (2 ^ 64)).toNat) : Int)).fdiv (2 ^ Min.min (Int.toNat 7) 64) % Int.ofNat (2 ^ 64)).toNat) : Int) % Int.ofNat (2 ^ 64)).toNat ^^^ (wu64 (wu64 (↑((wu64 (↑((a0 % Int.ofNat (2 ^ 64)).toNat ^^^ (wu64 (a0 * 2 ^ Min.min (Int.toNat 13) 64) % Int.ofNat (2 ^ 64)).toNat) : Int) % Int.ofNat (2 ^ 64)).toNat ^^^ ((wu64 (↑((a0 % Int.ofNat (2 ^ 64)).toNat ^^^ (wu64 (a0 * 2 ^ Min.min (Int.toNat 13) 64) % Int.ofNat (2 ^ 64)).toNat) : Int)).fdiv (2 ^ Min.min (Int.toNat 7) 64) % Int.ofNat (2 ^ 64)).toNat) : Int) * 2 ^ Min.min (Int.toNat 17) 64) % Int.ofNat (2 ^ 64)).toNat) : Int))), [(1000, ⟨1, ty_slices_xorshift, [dI_u64.enc (wu64 (↑((wu64 (↑((wu64 (↑((a0 % Int.ofNat (2 ^ 64)).toNat ^^^ (wu64 (a0 * 2 ^ Min.min (Int.toNat 13) 64) % Int.ofNat (2 ^ 64)).toNat) : Int) % Int.ofNat (2 ^ 64)).toNat ^^^ ((wu64 (↑((a0 % Int.ofNat (2 ^ 64)).toNat ^^^ (wu64 (a0 * 2 ^ Min.min (Int.toNat 13) 64) % Int.ofNat (2 ^ 64)).toNat) : Int)).fdiv (2 ^ Min.min (Int.toNat 7) 64) % Int.ofNat (2 ^ 64)).toNat) : Int) % Int.ofNat (2 ^ 64)).toNat ^^^ (wu64 (wu64 (↑((wu64 (↑((a0 % Int.ofNat (2 ^ 64)).toNat ^^^ (wu64 (a0 * 2 ^ Min.min (Int.toNat 13) 64) % Int.ofNat (2 ^ 64)).toNat) : Int) % Int.ofNat (2 ^ 64)).toNat ^^^ ((wu64 (↑((a0 % Int.ofNat (2 ^ 64)).toNat ^^^ (wu64 (a0 * 2 ^ Min.min (Int.toNat 13) 64) % Int.ofNat (2 ^ 64)).toNat) : Int)).fdiv (2 ^ Min.min (Int.toNat 7) 64) % Int.ofNat (2 ^ 64)).toNat) : Int) * 2 ^ Min.min (Int.toNat 17) 64) % Int.ofNat (2 ^ 64)).toNat) : Int))], true⟩)])) = some y) : cw f_slices_xorshift_Next [.loc 1000 1 0 0] [(1000, ⟨1, ty_slices_xorshift, [dI_u64.enc a0], true⟩)] = some y :=
  callw_tree R_slices_xorshift_Next zT [] (by kernel_rfl) (by kernel_rfl) (by kernel_rfl) (by kernel_rfl) (by kernel_rfl) h

theorem e_slices_medianAdjacentCmpFunc_int (a0 : List Int) (a1 : Int) (a2 : Int) (s : List GRatio) {y : AV × Mem} (h : (
  callD r_slices_medianCmpFunc_int (cw f_slices_medianCmpFunc_int [.sl 1 (List.map dI_i64.enc a0), I (w64 (a1 - 1)), I a1, I (w64 (a1 + 1)), .loc 1004 1 0 0, .fn f_severity_Rank_1 [.fa 2 (List.map dGRatio.enc s)]] [(1004, ⟨1, ty_i64_2, [dI_i64.enc a2], true⟩)]) fun (r0 : Int × Int) =>
  some (I r0.fst, [(1002, ⟨1, ty_i64_2, [dI_i64.enc r0.snd], true⟩)])) = some y) : cw f_slices_medianAdjacentCmpFunc_int [.sl 1 (List.map dI_i64.enc a0), I a1, .loc 1002 1 0 0, .fn f_severity_Rank_1 [.fa 2 (List.map dGRatio.enc s)]] [(1002, ⟨1, ty_i64_2, [dI_i64.enc a2], true⟩)] = some y :=
  callw_tree R_slices_medianAdjacentCmpFunc_int zT [] (by kernel_rfl) (by kernel_rfl) (by kernel_rfl) (by kernel_rfl) (by kernel_rfl) h

theorem e_slices_medianCmpFunc_int (a0 : List Int) (a1 : Int) (a2 : Int) (a3 : Int) (a4 : Int) (s : List GRatio) {y : AV × Mem} (h : (
  callD r_slices_order2CmpFunc_int (cw f_slices_order2CmpFunc_int [.sl 1 (List.map dI_i64.enc a0), I a1, I a2, .loc 1003 1 0 0, .fn f_severity_Rank_1 [.fa 2 (List.map dGRatio.enc s)]] [(1003, ⟨1, ty_i64_2, [dI_i64.enc a4], true⟩)]) fun (r0 : (Int × Int) × Int) =>
  callD r_slices_order2CmpFunc_int (cw f_slices_order2CmpFunc_int [.sl 1 (List.map dI_i64.enc a0), I r0.fst.snd, I a3, .loc 1003 1 0 0, .fn f_severity_Rank_1 [.fa 2 (List.map dGRatio.enc s)]] [(1003, ⟨1, ty_i64_2, [dI_i64.enc r0.snd], true⟩)]) fun (r1 : (Int × Int) × Int) =>
  callD r_slices_order2CmpFunc_int (cw f_slices_order2CmpFunc_int [.sl 1 (List.map dI_i64.enc a0), I r0.fst.fst, I r1.fst.fst, .loc 1003 1 0 0, .fn f_severity_Rank_1 [.fa 2 (List.map dGRatio.enc s)]] [(1003, ⟨1, ty_i64_2, [dI_i64.enc r1.snd], true⟩)]) fun (r2 : (Int × Int) × Int) =>
  some (I r2.fst.snd, [(1004, ⟨1, ty_i64_2, [dI_i64.enc r2.snd], true⟩)])) = some y) : cw f_slices_medianCmpFunc_int [.sl 1 (List.map dI_i64.enc a0), I a1, I a2, I a3, .loc 1004 1 0 0, .fn f_severity_Rank_1 [.fa 2 (List.map dGRatio.enc s)]] [(1004, ⟨1, ty_i64_2, [dI_i64.enc a4], true⟩)] = some y :=
  callw_tree R_slices_medianCmpFunc_int zT [] (by kernel_rfl) (by kernel_rfl) (by kernel_rfl) (by kernel_rfl) (by kernel_rfl) h

theorem e_cmp_isNaN_uint64 (a0 : Int) {y : AV × Mem} (h : (
  some (B (a0 != a0), [])) = some y) : cw f_cmp_isNaN_uint64 [.v (.int .u64 a0)] [] = some y :=
  callw_tree R_cmp_isNaN_uint64 zT [] (by kernel_rfl) (by kernel_rfl) (by kernel_rfl) (by kernel_rfl) (by kernel_rfl) h

theorem e_bits_Rem64 (a0 : Int) (a1 : Int) (a2 : Int) {y : AV × Mem} (h : (
  chk ((a2 : Int) ≠ 0) <|
  callD r_bits_Div64 (cw f_bits_Div64 [.v (.int .u64 (a0.tmod a2)), .v (.int .u64 a1), .v (.int .u64 a2)] []) fun (r0 : Int × Int) =>
  some (.v (.int .u64 r0.snd), [])) = some y) : cw f_bits_Rem64 [.v (.int .u64 a0), .v (.int .u64 a1), .v (.int .u64 a2)] [] = some y :=
  callw_tree R_bits_Rem64 zT [] (by kernel_rfl) (by kernel_rfl) (by kernel_rfl) (by kernel_rfl) (by kernel_rfl) h

theorem e_bits_Div64 (a1 : Int) (a2 : Int) {y : AV × Mem} (h : (
  brn (a2 == 0) (none)
  (brn (decide (a2 ≤ 0)) (none)
   (chk ((a2 : Int) ≠ 0) <|
    chk ((a2 : Int) ≠ 0) <|
    some (.tup [.v (.int .u64 (wu64 (a1.tdiv a2))), .v (.int .u64 (a1.tmod a2))], [])))) = some y) : cw f_bits_Div64 [.v (.int .u64 0), .v (.int .u64 a1), .v (.int .u64 a2)] [] = some y :=
  callw_tree R_bits_Div64 zT [] (by kernel_rfl) (by kernel_rfl) (by kernel_rfl) (by kernel_rfl) (by kernel_rfl) h

theorem e_ref01_Twice (a0 : Gref01Wide) {y : AV × Mem} (h : (
  chk ((0 : Int) ≤ 1) <|
  chk ((0 : Int) ≤ 63) <|
  chk ((0 : Int) ≤ 1) <|
  some (.agg (dGref01Wide.enc (⟨wu64 (↑((wu64 (a0.Hi * 2 ^ Min.min (Int.toNat 1) 64) % Int.ofNat (2 ^ 64)).toNat ||| (a0.Lo.fdiv (2 ^ Min.min (Int.toNat 63) 64) % Int.ofNat (2 ^ 64)).toNat) : Int), wu64 (a0.Lo * 2 ^ Min.min (Int.toNat 1) 64)⟩)), [])) = some y) : cw f_ref01_Twice [.agg (dGref01Wide.enc a0)] [] = some y :=
  callw_tree R_ref01_Twice zT [] (by kernel_rfl) (by kernel_rfl) (by kernel_rfl) (by kernel_rfl) (by kernel_rfl) h

theorem e_slices_order2CmpFunc_int (a0 : List Int) (a1 : Int) (a2 : Int) (a3 : Int) (s : List GRatio) {y : AV × Mem} (h : (
  chk ((0 : Int) ≤ a2) <|
  elemD dI_i64 (List.map dI_i64.enc a0) a2.toNat fun (c0 : Int) =>
  chk ((0 : Int) ≤ a1) <|
  elemD dI_i64 (List.map dI_i64.enc a0) a1.toNat fun (c1 : Int) =>
  callD r_severity_Rank_1 (cw f_severity_Rank_1 [I c0, I c1, .fa 2 (List.map dGRatio.enc s)] []) fun (r2 : Int) =>
  brn (decide (r2 < 0)) (some (.tup [I a2, I a1], [(1003, ⟨1, ty_i64_2, [dI_i64.enc (w64 (a3 + 1))], true⟩)]))
  (some (.tup [I a1, I a2], [(1003, ⟨1, ty_i64_2, [dI_i64.enc a3], true⟩)]))) = some y) : cw f_slices_order2CmpFunc_int [.sl 1 (List.map dI_i64.enc a0), I a1, I a2, .loc 1003 1 0 0, .fn f_severity_Rank_1 [.fa 2 (List.map dGRatio.enc s)]] [(1003, ⟨1, ty_i64_2, [dI_i64.enc a3], true⟩)] = some y :=
  callw_tree R_slices_order2CmpFunc_int zT [] (by kernel_rfl) (by kernel_rfl) (by kernel_rfl) (by kernel_rfl) (by kernel_rfl) h

end Go.Proofs.Ytohpjbokhcifbaa
