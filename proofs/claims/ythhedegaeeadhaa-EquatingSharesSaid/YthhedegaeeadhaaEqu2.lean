/- Equating: what Percentile computes. -/
import Derived.Test.YthhedegaeeadhaaEqu
namespace Go.Proofs.Ythhedegaeeadhaa
open Go.Ab Go.Pure
set_option linter.unusedVariables false

/-- the numbers below each score -/
def bel (x : List Int) : List Int := (List.range (x.length + 1)).map fun i => (x.take i).sum

theorem bel_len (x : List Int) : (bel x).length = x.length + 1 := by simp [bel]
theorem bel_at (x : List Int) {i : Nat} (hi : i < (bel x).length) : (bel x)[i] = (x.take i).sum := by simp [bel]

theorem k_sums {x : List Int} (h : FD x) : ∀ (k i : Nat), i + k = x.length → k_equating_sums_1 ⟨x⟩ (List.map dI_i64.enc ((List.range (i + 1)).map fun i => (x.take i).sum)) (i : Int) = some (r_equating_sums.enc (bel x)) := by
  have hl := h.2.1
  intro k
  induction k with
  | zero =>
    intro i hi
    refine t_equating_sums_1 _ _ _ ?_
    rw [brn_dec, if_neg (by show ¬ (i : Int) < ((List.map dI_i64.enc x).length : Int); rw [lenI]; omega), chk_pos rfl, show i = x.length by omega]
    rfl
  | succ k ih =>
    intro i hi
    have e : w64 ((i : Int) + 1) = ((i + 1 : Nat) : Int) := by rw [w64_id (by omega) (by omega)]; omega
    have ht := h.take i
    have ha := h.at (show i < x.length by omega)
    have hs := h.sum
    refine t_equating_sums_1 _ _ _ ?_
    rw [brn_dec, if_pos (by show (i : Int) < ((List.map dI_i64.enc x).length : Int); rw [lenI]; omega), chk_pos (by omega), Int.toNat_natCast]
    show elemD dI_i64 (List.map dI_i64.enc x) i _ = _
    rw [elemI (by omega), chk_pos (by omega), chk_pos (by rw [lenI]; simp; omega), Nat.zero_add, elemI (i := i) (by simp)]
    have eg : ((List.range (i + 1)).map fun i => (x.take i).sum)[i]'(by simp) = (x.take i).sum := by simp
    rw [eg, chk_pos rfl, chk_pos (by rw [lenI]; simp; omega), chk_pos rfl, e, w64_id (by omega) (by omega), ← take_next (show i < x.length by omega), ← ih (i + 1) (by omega)]
    congr 1
    rw [List.range_succ (n := i + 1), List.map_append, List.map_append]
    rfl

theorem c_sums {x : List Int} (h : FD x) : cw f_equating_sums [aD x] [] = some (r_equating_sums.enc (bel x)) := by
  refine e_equating_sums _ ?_
  rw [chk_pos rfl]
  exact k_sums h x.length 0 (by omega)

theorem c_number {x : List Int} (h : FD x) {i : Nat} (hi : i < x.length) (p w : Int) (hw : 0 < w) (hw2 : w ≤ 42) (hp0 : 0 ≤ p) (hp2 : p ≤ 42) (h1 : shr x i ≤ (p : Rat) / (w : Rat)) (h2 : (p : Rat) / (w : Rat) ≤ shr x (i + 1)) :
    cw f_equating_number [.sl 1 (List.map dI_i64.enc (bel x)), I (i : Int), I p, I w] [] = some (r_equating_number.enc (ofR (Qs (shr x) i ((p : Rat) / (w : Rat))), 0)) := by
  have hl := h.2.1
  have hs := h.sum
  have ha := h.at hi
  have ht := h.take i
  obtain ⟨q1, q2, q3, q4, q5⟩ := Qs_bd h hi p w hw hw2 h1 h2
  have m1 : p * x.sum ≤ 42 * 42 := Int.mul_le_mul hp2 hs.2 (by omega) (by omega)
  have m2 : 0 ≤ p * x.sum := Int.mul_nonneg hp0 (by omega)
  have m3 : (x.take i).sum * w ≤ 42 * 42 := Int.mul_le_mul (by omega) hw2 (by omega) (by omega)
  have m4 : 0 ≤ (x.take i).sum * w := Int.mul_nonneg ht.1 (by omega)
  have hlen := bel_len x
  have hD : w * x[i] = (((w * x[i]).toNat : Nat) : Int) := by omega
  have n1 : cw f_ratio_New [I (2 * (i : Int) - 1), I 2] [] = some (r_ratio_New.enc (ofR (mkRat (2 * i - 1) 2), 0)) := c_New (2 * i - 1) 2 (by omega) (by omega) (by omega)
  have n2 := c_New (p * x.sum - (x.take i).sum * w) (w * x[i]).toNat (by omega) (by omega) (by omega)
  rw [← hD] at n2
  have b1 : Bd 4 1 (mkRat (2 * (i : Int) - 1) 2) := bd_mk (by omega) (by show _ ≤ 16; omega) (by show _ ≤ 2; omega)
  have b2 : Bd 8 8 (mkRat (p * x.sum - (x.take i).sum * w) (w * x[i]).toNat) := bd_mk (by omega) (by show _ ≤ 256; omega) (by show _ ≤ 256; omega)
  refine e_equating_number _ _ _ _ ?_
  have e0 : w64 (((List.map dI_i64.enc (bel x)).length : Int) - 1) = ((x.length : Nat) : Int) := by rw [lenI, hlen, w64_id (by omega) (by omega)]; omega
  have e1 : w64 ((i : Int) + 1) = ((i + 1 : Nat) : Int) := by rw [w64_id (by omega) (by omega)]; omega
  have e2 : w64 (w64 (2 * (i : Int)) - 1) = 2 * i - 1 := by rw [w64_id (n := 2 * (i : Int)) (by omega) (by omega), w64_id (by omega) (by omega)]
  rw [e0, chk_pos (by omega), Int.toNat_natCast, elemI (by omega), bel_at, List.take_length, e2, callD_of n1, brn_f (by rfl), chk_pos (by omega), Int.toNat_natCast, elemI (by omega), bel_at, e1, chk_pos (by omega), Int.toNat_natCast, elemI (by omega), bel_at,
    chk_pos (by omega), elemI (by omega), bel_at, take_next hi]
  have e3 : w64 ((x.take i).sum + x[i] - (x.take i).sum) = x[i] := by rw [w64_id (by omega) (by omega)]; omega
  rw [e3, w64_id (n := p * x.sum) (by omega) (by omega), w64_id (n := (x.take i).sum * w) (by omega) (by omega), w64_id (n := p * x.sum - (x.take i).sum * w) (by omega) (by omega), w64_id (n := w * x[i]) (by omega) (by omega),
    callD_of n2, brn_f (by rfl), callD_of (c_Add _ _ b1 b2 (by omega) (by omega) (by omega)), ← Qs_frac h hi p w hw]

theorem c_Contains0 {x : List Int} (h : FD x) : cw f_slices_Contains_int_int [.sl 1 (List.map dI_i64.enc x), I 0] [] = some (r_slices_Contains_int_int.enc false) := by
  have hl := h.2.1
  have key : ∀ (k i : Nat), i + k = x.length → k_slices_Index_int_int_1 x 0 (i : Int) = some (r_slices_Index_int_int.enc (-1)) := by
    intro k
    induction k with
    | zero =>
      intro i hi
      refine t_slices_Index_int_int_1 _ _ _ ?_
      rw [brn_dec, if_neg (by rw [lenI]; omega)]
    | succ k ih =>
      intro i hi
      have e : w64 ((i : Int) + 1) = ((i + 1 : Nat) : Int) := by rw [w64_id (by omega) (by omega)]; omega
      have ha := h.at (show i < x.length by omega)
      refine t_slices_Index_int_int_1 _ _ _ ?_
      rw [brn_dec, if_pos (by rw [lenI]; omega), chk_pos (by omega), Int.toNat_natCast, elemI (by omega), brn_f (beq_false_of_ne (by omega)), e]
      exact ih (i + 1) (by omega)
  refine e_slices_Contains_int_int _ _ ?_
  rw [callD_of (e_slices_Index_int_int x 0 (key x.length 0 (by omega)))]
  rfl

section
variable {x y : List Int} (hx : FD x) (hy : FD y)

theorem lt_shr {x y : List Int} (hx : FD x) (hy : FD y) (i j : Nat) : shr y j < shr x i ↔ (y.take j).sum * x.sum < (x.take i).sum * y.sum := by
  have := hx.sum
  have := hy.sum
  exact frac_lt _ _ _ _ (by omega) (by omega)

theorem le_shr {x y : List Int} (hx : FD x) (hy : FD y) (i j : Nat) : shr x i ≤ shr y j ↔ (x.take i).sum * y.sum ≤ (y.take j).sum * x.sum := by
  have := hx.sum
  have := hy.sum
  exact frac_le _ _ _ _ (by omega) (by omega)

noncomputable abbrev rP (P : List Pt) : Option (AV × Mem) := some (r_equating_Percentile.enc (⟨(nf P).map ofP⟩, 0))

theorem k_P1026 {x y : List Int} (N M : Int) (P : List Pt) (hP : NormOk P) (i j : Int) : k_equating_Percentile_1026 ⟨x⟩ ⟨y⟩ (bel x) (bel y) N M j (ptsE P) i = rP P := by
  refine t_equating_Percentile_1026 _ _ _ _ _ _ _ _ _ ?_
  rw [chk_pos (by omega), List.take_length]
  show callD r_conversion_Normal (cw f_conversion_Normal [aC P] []) _ = _
  rw [callD_of (g_Normal P hP), chk_pos (by omega), chk_pos (by omega), chk_pos (by omega)]

/-- both ways round the loop -/
def Loop (x y : List Int) (P F : List Pt) (i j : Nat) : Prop :=
  k_equating_Percentile_1 ⟨x⟩ ⟨y⟩ (bel x) (bel y) x.sum y.sum (ptsE F) (i : Int) (j : Int) = rP P ∧
  k_equating_Percentile_1v1 ⟨x⟩ ⟨y⟩ (bel x) (bel y) x.sum y.sum (j : Int) (ptsE F) (i : Int) = rP P

theorem k_P1024 {x y : List Int} (hx : FD x) (hy : FD y) (P F : List Pt) (i i' j : Nat) (hi : i + 1 ≤ x.length) (hj : j + 1 ≤ y.length) (hl : Loop x y P F i' (nj (shr x) (shr y) i j)) :
    k_equating_Percentile_1024 ⟨x⟩ ⟨y⟩ (bel x) (bel y) x.sum y.sum (j : Int) (ptsE F) (i' : Int) ((x.take (i + 1)).sum * y.sum) ((y.take (j + 1)).sum * x.sum) = rP P ∧
    k_equating_Percentile_1024v1 ⟨x⟩ ⟨y⟩ (bel x) (bel y) x.sum y.sum (j : Int) (ptsE F) (i' : Int) ((x.take (i + 1)).sum * y.sum) ((y.take (j + 1)).sum * x.sum) = rP P := by
  have hl2 := hy.2.1
  have e : w64 ((j : Int) + 1) = ((j + 1 : Nat) : Int) := by rw [w64_id (by omega) (by omega)]; omega
  have hc := le_shr hy hx (j + 1) (i + 1)
  unfold nj at hl
  constructor
  · refine t_equating_Percentile_1024 _ _ _ _ _ _ _ _ _ _ _ ?_
    rw [brn_dec, e]
    by_cases h : (y.take (j + 1)).sum * x.sum ≤ (x.take (i + 1)).sum * y.sum
    · rw [if_pos h]; rw [if_pos (hc.2 h)] at hl; exact hl.1
    · rw [if_neg h]; rw [if_neg (fun h' => h (hc.1 h'))] at hl; exact hl.2
  · refine t_equating_Percentile_1024v1 _ _ _ _ _ _ _ _ _ _ _ ?_
    rw [brn_dec, e]
    by_cases h : (y.take (j + 1)).sum * x.sum ≤ (x.take (i + 1)).sum * y.sum
    · rw [if_pos h]; rw [if_pos (hc.2 h)] at hl; exact hl.1
    · rw [if_neg h]; rw [if_neg (fun h' => h (hc.1 h'))] at hl; exact hl.2

theorem k_Percentile {x y : List Int} (hx : FD x) (hy : FD y) (P : List Pt) (hP : NormOk P) :
    ∀ (k i j : Nat) (s : Rat) (F : List Pt), At (shr x) (shr y) x.length y.length i j s → (x.length - i) + (y.length - j) ≤ k → F.length ≤ 20 + i + j → P = F ++ pw (shr x) (shr y) x.length y.length k i j → Loop x y P F i j := by
  have sx := hx.sh
  have sy := hy.sh
  have lx := hx.2.1
  have ly := hy.2.1
  have ux := hx.sum
  have uy := hy.sum
  have blx := bel_len x
  have bly := bel_len y
  intro k
  induction k with
  | zero =>
    intro i j s F h hk hF hPe
    have e : P = F := by rw [hPe]; simp [pw]
    subst e
    have him := h.im
    have hjm := h.jm
    constructor
    · refine t_equating_Percentile_1 _ _ _ _ _ _ _ _ _ ?_
      rw [brn_dec, if_neg (by show ¬ (i : Int) < ((List.map dI_i64.enc x).length : Int); rw [lenI]; omega)]
      exact k_P1026 _ _ P hP _ _
    · refine t_equating_Percentile_1v1 _ _ _ _ _ _ _ _ _ ?_
      rw [brn_dec, if_neg (by show ¬ (i : Int) < ((List.map dI_i64.enc x).length : Int); rw [lenI]; omega)]
      exact k_P1026 _ _ P hP _ _
  | succ k ih =>
    intro i j s F h hk hF hPe
    have him := h.im
    have hjm := h.jm
    by_cases hi : i < x.length
    · have hj : j < y.length := (h.both sx sy).1 hi
      obtain ⟨h1, h2, h3, h4, h5⟩ := h.next sx sy hi hj
      have hless := less_steps (a := shr x) (b := shr y) i j
      have him' := h1.im
      have hjm' := h1.jm
      rw [pw_step k hi hj] at hPe
      have hrec := ih (ni (shr x) (shr y) i j) (nj (shr x) (shr y) i j) (nx (shr x) (shr y) i j) (F ++ [(Qs (shr x) i (nx (shr x) (shr y) i j), Qs (shr y) j (nx (shr x) (shr y) i j))]) h1 (by omega) (by simp; omega) (by rw [hPe]; simp)
      have tx := hx.take (i + 1)
      have ty := hy.take (j + 1)
      have m1 : (x.take (i + 1)).sum * y.sum ≤ 42 * 42 := Int.mul_le_mul (by omega) uy.2 (by omega) (by omega)
      have m2 : 0 ≤ (x.take (i + 1)).sum * y.sum := Int.mul_nonneg tx.1 (by omega)
      have m3 : (y.take (j + 1)).sum * x.sum ≤ 42 * 42 := Int.mul_le_mul (by omega) ux.2 (by omega) (by omega)
      have m4 : 0 ≤ (y.take (j + 1)).sum * x.sum := Int.mul_nonneg ty.1 (by omega)
      have ei : w64 ((i : Int) + 1) = ((i + 1 : Nat) : Int) := by rw [w64_id (by omega) (by omega)]; omega
      have ej : w64 ((j : Int) + 1) = ((j + 1 : Nat) : Int) := by rw [w64_id (by omega) (by omega)]; omega
      have hc := le_shr hx hy (i + 1) (j + 1)
      have hF' : ptsE F ++ [dGPoint.enc (ofP (Qs (shr x) i (nx (shr x) (shr y) i j), Qs (shr y) j (nx (shr x) (shr y) i j)))] = ptsE (F ++ [(Qs (shr x) i (nx (shr x) (shr y) i j), Qs (shr y) j (nx (shr x) (shr y) i j))]) := by
        simp only [ptsE, List.map_append, List.map_cons, List.map_nil]
      have ani := h.ai
      have bnj := h.bj
      -- the tail behind the two numbers
      have tail : ∀ (A B : Option (AV × Mem)),
          (shr x (i + 1) ≤ shr y (j + 1) → A = k_equating_Percentile_1024 ⟨x⟩ ⟨y⟩ (bel x) (bel y) x.sum y.sum (j : Int) (ptsE (F ++ [(Qs (shr x) i (nx (shr x) (shr y) i j), Qs (shr y) j (nx (shr x) (shr y) i j))])) (w64 ((i : Int) + 1)) ((x.take (i + 1)).sum * y.sum) ((y.take (j + 1)).sum * x.sum)) →
          (¬ shr x (i + 1) ≤ shr y (j + 1) → B = k_equating_Percentile_1024v1 ⟨x⟩ ⟨y⟩ (bel x) (bel y) x.sum y.sum (j : Int) (ptsE (F ++ [(Qs (shr x) i (nx (shr x) (shr y) i j), Qs (shr y) j (nx (shr x) (shr y) i j))])) (i : Int) ((x.take (i + 1)).sum * y.sum) ((y.take (j + 1)).sum * x.sum)) →
          brn (decide ((x.take (i + 1)).sum * y.sum ≤ (y.take (j + 1)).sum * x.sum)) A B = rP P := by
        intro A B hA hB
        rw [brn_dec]
        by_cases hle : shr x (i + 1) ≤ shr y (j + 1)
        · rw [if_pos (hc.1 hle), hA hle, ei]
          have : ni (shr x) (shr y) i j = i + 1 := by unfold ni; rw [if_pos hle]
          rw [this] at hrec
          exact (k_P1024 hx hy P _ i (i + 1) j (by omega) (by omega) hrec).1
        · rw [if_neg (fun h' => hle (hc.2 h')), hB hle]
          have : ni (shr x) (shr y) i j = i := by unfold ni; rw [if_neg hle]
          rw [this] at hrec
          exact (k_P1024 hx hy P _ i i j (by omega) (by omega) hrec).2
      -- the two numbers
      have f1015 : shr y (j + 1) < shr x (i + 1) → k_equating_Percentile_1015 ⟨x⟩ ⟨y⟩ (bel x) (bel y) x.sum y.sum (j : Int) (ptsE F) (i : Int) ((x.take (i + 1)).sum * y.sum) ((y.take (j + 1)).sum * x.sum) (y.take (j + 1)).sum = rP P := by
        intro hlt
        have enx : nx (shr x) (shr y) i j = (((y.take (j + 1)).sum : Int) : Rat) / ((y.sum : Int) : Rat) := by unfold nx; rw [if_pos hlt]; rfl
        have c1 := c_number hx hi (y.take (j + 1)).sum y.sum (by omega) (by omega) (by omega) (by omega) (by rw [← enx]; grind) (by rw [← enx]; exact h3)
        have c2 := c_number hy hj (y.take (j + 1)).sum y.sum (by omega) (by omega) (by omega) (by omega) (by rw [← enx]; grind) (by rw [← enx]; exact h4)
        rw [← enx] at c1 c2
        refine t_equating_Percentile_1015 _ _ _ _ _ _ _ _ _ _ _ _ ?_
        rw [chk_pos (by omega), List.take_length, callD_of c1, brn_f (by rfl), chk_pos (by omega), List.take_length, callD_of c2, brn_f (by rfl), chk_pos rfl, chk_pos (by rw [lenP]; omega), chk_pos rfl]
        refine tail _ _ (fun _ => ?_) (fun _ => ?_) <;> rw [← hF'] <;> rfl
      have f1015v : ¬ shr y (j + 1) < shr x (i + 1) → k_equating_Percentile_1015v1 ⟨x⟩ ⟨y⟩ (bel x) (bel y) x.sum y.sum (j : Int) (ptsE F) (i : Int) ((x.take (i + 1)).sum * y.sum) ((y.take (j + 1)).sum * x.sum) (x.take (i + 1)).sum = rP P := by
        intro hlt
        have enx : nx (shr x) (shr y) i j = (((x.take (i + 1)).sum : Int) : Rat) / ((x.sum : Int) : Rat) := by unfold nx; rw [if_neg hlt]; rfl
        have c1 := c_number hx hi (x.take (i + 1)).sum x.sum (by omega) (by omega) (by omega) (by omega) (by rw [← enx]; grind) (by rw [← enx]; exact h3)
        have c2 := c_number hy hj (x.take (i + 1)).sum x.sum (by omega) (by omega) (by omega) (by omega) (by rw [← enx]; grind) (by rw [← enx]; exact h4)
        rw [← enx] at c1 c2
        refine t_equating_Percentile_1015v1 _ _ _ _ _ _ _ _ _ _ _ _ ?_
        rw [chk_pos (by omega), List.take_length, callD_of c1, brn_f (by rfl), chk_pos (by omega), List.take_length, callD_of c2, brn_f (by rfl), chk_pos rfl, chk_pos (by rw [lenP]; omega), chk_pos rfl]
        refine tail _ _ (fun _ => ?_) (fun _ => ?_) <;> rw [← hF'] <;> rfl
      have hcl := lt_shr hx hy (i + 1) (j + 1)
      constructor
      · refine t_equating_Percentile_1 _ _ _ _ _ _ _ _ _ ?_
        rw [brn_dec, if_pos (by show (i : Int) < ((List.map dI_i64.enc x).length : Int); rw [lenI]; omega), brn_dec, if_pos (by show (j : Int) < ((List.map dI_i64.enc y).length : Int); rw [lenI]; omega), ei, ej, lenI, lenI, chk_pos (by omega), chk_pos (by omega), Int.toNat_natCast, Nat.zero_add, elemI (by omega), bel_at, chk_pos (by omega), chk_pos (by omega), Int.toNat_natCast, Nat.zero_add, elemI (by omega), bel_at,
          chk_pos (by omega), chk_pos (by omega), elemI (by omega), bel_at, brn_dec, w64_id (n := (y.take (j + 1)).sum * x.sum) (by omega) (by omega), w64_id (n := (x.take (i + 1)).sum * y.sum) (by omega) (by omega)]
        by_cases hlt : shr y (j + 1) < shr x (i + 1)
        · rw [if_pos (hcl.1 hlt), chk_pos (by omega), chk_pos (by omega), elemI (by omega), bel_at]
          exact f1015 hlt
        · rw [if_neg (fun h' => hlt (hcl.2 h'))]
          exact f1015v hlt
      · refine t_equating_Percentile_1v1 _ _ _ _ _ _ _ _ _ ?_
        rw [brn_dec, if_pos (by show (i : Int) < ((List.map dI_i64.enc x).length : Int); rw [lenI]; omega), brn_dec, if_pos (by show (j : Int) < ((List.map dI_i64.enc y).length : Int); rw [lenI]; omega), ei, ej, lenI, lenI, chk_pos (by omega), chk_pos (by omega), Int.toNat_natCast, Nat.zero_add, elemI (by omega), bel_at, chk_pos (by omega), chk_pos (by omega), Int.toNat_natCast, Nat.zero_add, elemI (by omega), bel_at,
          chk_pos (by omega), chk_pos (by omega), elemI (by omega), bel_at, brn_dec, w64_id (n := (y.take (j + 1)).sum * x.sum) (by omega) (by omega), w64_id (n := (x.take (i + 1)).sum * y.sum) (by omega) (by omega)]
        by_cases hlt : shr y (j + 1) < shr x (i + 1)
        · rw [if_pos (hcl.1 hlt), chk_pos (by omega), chk_pos (by omega), elemI (by omega), bel_at]
          exact f1015 hlt
        · rw [if_neg (fun h' => hlt (hcl.2 h'))]
          exact f1015v hlt
    · have e : P = F := by
        rw [hPe]
        have : pw (shr x) (shr y) x.length y.length (k + 1) i j = [] := by unfold pw; rw [if_neg (fun h' => hi h'.1)]
        rw [this, List.append_nil]
      subst e
      constructor
      · refine t_equating_Percentile_1 _ _ _ _ _ _ _ _ _ ?_
        rw [brn_dec, if_neg (by show ¬ (i : Int) < ((List.map dI_i64.enc x).length : Int); rw [lenI]; omega)]
        exact k_P1026 _ _ P hP _ _
      · refine t_equating_Percentile_1v1 _ _ _ _ _ _ _ _ _ ?_
        rw [brn_dec, if_neg (by show ¬ (i : Int) < ((List.map dI_i64.enc x).length : Int); rw [lenI]; omega)]
        exact k_P1026 _ _ P hP _ _
end

/-- the points of the percentile curve -/
def pc (x y : List Int) : List Pt := pts (shr x) (shr y) x.length y.length

theorem c_Percentile {x y : List Int} (hx : FD x) (hy : FD y) : cw f_equating_Percentile [aD x, aD y] [] = some (r_equating_Percentile.enc (⟨(nf (pc x y)).map ofP⟩, 0)) := by
  have lx := hx.2.1
  have ly := hy.2.1
  have blx := bel_len x
  have bly := bel_len y
  refine e_equating_Percentile _ _ ?_
  have e1 : w64 (((List.map dI_i64.enc (bel x)).length : Int) - 1) = ((x.length : Nat) : Int) := by rw [lenI, blx, w64_id (by omega) (by omega)]; omega
  have e2 : w64 (((List.map dI_i64.enc (bel y)).length : Int) - 1) = ((y.length : Nat) : Int) := by rw [lenI, bly, w64_id (by omega) (by omega)]; omega
  rw [callD_of (c_DValid hx.dg), brn_nt, callD_of (c_DValid hy.dg), brn_nt, callD_of (c_Contains0 hx), brn_F, callD_of (c_Contains0 hy), brn_F, callD_of (c_sums hx), callD_of (c_sums hy), e1, e2, lenI, lenI, chk_pos (by omega), chk_pos (by omega), Int.toNat_natCast, Nat.zero_add, elemI (by omega), bel_at, List.take_length,
    chk_pos (by omega), chk_pos (by omega), Int.toNat_natCast, Nat.zero_add, elemI (by omega), bel_at, List.take_length, chk_pos rfl]
  have hh : ofR (-1 / 2 : Rat) = ⟨-1, 2⟩ := by
    have h1 : (-1 / 2 : Rat).num = -1 := by decide +kernel
    have h2 : (-1 / 2 : Rat).den = 2 := by decide +kernel
    unfold ofR
    rw [h1, h2]
    rfl
  have key := (k_Percentile hx hy (pc x y) (pts_norm hx hy) (x.length + y.length) 0 0 0 [(-1 / 2, -1 / 2)] (at0 hx.sh hy.sh) (by omega) (by simp) rfl).1
  unfold rP at key
  rw [← key]
  have e3 : ptsE [((-1 / 2 : Rat), (-1 / 2 : Rat))] = [dGPoint.enc ⟨⟨-1, 2⟩, ⟨-1, 2⟩⟩] := by
    show [dGPoint.enc (ofP (-1 / 2, -1 / 2))] = _
    unfold ofP
    rw [hh]
  rw [e3]
  rfl
end Go.Proofs.Ythhedegaeeadhaa
