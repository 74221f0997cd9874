/- Distributions: what the program and the reference compute of them. -/
import Derived.Test.YtapkemilafogjaaRatioN
import Derived.Test.YtapkemilafogjaaRefN
import Derived.Test.YtapkemilafogjaaDice0
namespace Go.Proofs.Ytapkemilafogjaa
open Go.Ab Go.Pure
set_option linter.unusedVariables false

/-- a distribution of moderate size -/
def DG (l : List Int) : Prop := 1 ≤ l.length ∧ l.length ≤ 201 ∧ ∀ c ∈ l, 0 ≤ c ∧ c ≤ 1000

noncomputable abbrev aD (l : List Int) : AV := .agg (dGDistribution.enc ⟨l⟩)

theorem sum_bd : ∀ (l : List Int), (∀ c ∈ l, 0 ≤ c ∧ c ≤ 1000) → 0 ≤ l.sum ∧ l.sum ≤ 1000 * l.length
  | [], _ => by simp
  | c :: l, h => by
    have := sum_bd l (fun x hx => h x (by simp [hx]))
    have := h c (by simp)
    simp only [List.sum_cons, List.length_cons]
    omega

theorem DG.sum {l : List Int} (h : DG l) : 0 ≤ l.sum ∧ l.sum ≤ 201000 := by
  have := sum_bd l h.2.2
  have := h.2.1
  omega

theorem drop_sum {l : List Int} {i : Nat} (hi : i < l.length) : (l.drop i).sum = l[i] + (l.drop (i + 1)).sum := by
  rw [List.drop_eq_getElem_cons hi, List.sum_cons]

theorem take_drop_sum (l : List Int) (i : Nat) : (l.take i).sum + (l.drop i).sum = l.sum := by
  rw [← List.sum_append, List.take_append_drop]

theorem DG.drop {l : List Int} (h : DG l) (i : Nat) : 0 ≤ (l.drop i).sum ∧ (l.drop i).sum ≤ 201000 := by
  have h1 := sum_bd (l.drop i) (fun c hc => h.2.2 c (List.mem_of_mem_drop hc))
  have h2 : (l.drop i).length ≤ 201 := by rw [List.length_drop]; have := h.2.1; omega
  omega

theorem DG.take {l : List Int} (h : DG l) (i : Nat) : 0 ≤ (l.take i).sum ∧ (l.take i).sum ≤ 201000 := by
  have h1 := sum_bd (l.take i) (fun c hc => h.2.2 c (List.mem_of_mem_take hc))
  have h2 : (l.take i).length ≤ 201 := by rw [List.length_take]; have := h.2.1; omega
  omega

theorem DG.at {l : List Int} (h : DG l) {i : Nat} (hi : i < l.length) : 0 ≤ l[i] ∧ l[i] ≤ 1000 := h.2.2 _ (List.getElem_mem hi)

theorem lenI (l : List Int) : (List.map dI_i64.enc l).length = l.length := List.length_map _

theorem elemI {β : Type} {l : List Int} {i : Nat} (h : i < l.length) (k : Int → Option β) : elemD dI_i64 (List.map dI_i64.enc l) i k = k l[i] := elemD_get (D := dI_i64) (l := l) h k

theorem c_DValid {l : List Int} (h : DG l) : cw f_distribution_Valid [aD l] [] = some (r_distribution_Valid.enc true) := by
  have hs := h.sum
  have key : ∀ (k i : Nat) (s : Int), i + k = l.length → s + (l.drop i).sum = l.sum → 0 ≤ s → k_distribution_Valid_1 ⟨l⟩ s (i : Int) = some (r_distribution_Valid.enc true) := by
    intro k
    induction k with
    | zero =>
      intro i s hi he h0
      refine t_distribution_Valid_1 _ _ _ ?_
      have := h.drop i
      rw [brn_dec, if_neg (by show ¬ (i : Int) < ((List.map dI_i64.enc l).length : Int); rw [lenI]; omega), decide_eq_true (by omega)]
    | succ k ih =>
      intro i s hi he h0
      have hd := h.drop (i + 1)
      have ha := h.at (show i < l.length by omega)
      have hsum := drop_sum (show i < l.length by omega)
      have e : w64 ((i : Int) + 1) = ((i + 1 : Nat) : Int) := by rw [w64_id (by have := h.2.1; omega) (by have := h.2.1; omega)]; omega
      refine t_distribution_Valid_1 _ _ _ ?_
      rw [brn_dec, if_pos (by show (i : Int) < ((List.map dI_i64.enc l).length : Int); rw [lenI]; omega), chk_pos (by omega), Int.toNat_natCast]
      show elemD dI_i64 (List.map dI_i64.enc l) i _ = _
      rw [elemI (by omega), brn_dec, if_neg (by omega), brn_dec, if_neg (by omega), e, w64_id (by omega) (by omega)]
      exact ih (i + 1) (s + l[i]) (by omega) (by omega) (by omega)
  refine e_distribution_Valid _ ?_
  rw [brn_dec, if_neg (by show ¬ ((List.map dI_i64.enc l).length : Int) < 1; rw [lenI]; have := h.1; omega), brn_dec, if_neg (by show ¬ (201 : Int) < ((List.map dI_i64.enc l).length : Int); rw [lenI]; have := h.2.1; omega)]
  exact key l.length 0 0 (by omega) (by simp) (by omega)

theorem c_Below {l : List Int} (h : DG l) (k : Int) : cw f_distribution_Below [aD l, I k] [] = some (r_distribution_Below.enc (l.take k.toNat).sum) := by
  have hl2 := h.2.1
  have key : ∀ (m i : Nat), i + m = l.length → i ≤ k.toNat → k_distribution_Below_1 ⟨l⟩ k (l.take i).sum (i : Int) = some (r_distribution_Below.enc (l.take k.toNat).sum) := by
    intro m
    induction m with
    | zero =>
      intro i hi hk
      refine t_distribution_Below_1 _ _ _ _ ?_
      rw [brn_dec, if_neg (by show ¬ (i : Int) < ((List.map dI_i64.enc l).length : Int); rw [lenI]; omega), List.take_of_length_le (by omega), List.take_of_length_le (by omega)]
    | succ m ih =>
      intro i hi hk
      have e : w64 ((i : Int) + 1) = ((i + 1 : Nat) : Int) := by rw [w64_id (by omega) (by omega)]; omega
      have ht := h.take i
      have ha := h.at (show i < l.length by omega)
      refine t_distribution_Below_1 _ _ _ _ ?_
      rw [brn_dec, if_pos (by show (i : Int) < ((List.map dI_i64.enc l).length : Int); rw [lenI]; omega), brn_dec]
      by_cases hc : (i : Int) < k
      · rw [if_pos hc, chk_pos (by omega), Int.toNat_natCast]
        show elemD dI_i64 (List.map dI_i64.enc l) i _ = _
        have es : (l.take (i + 1)).sum = (l.take i).sum + l[i] := by rw [List.take_add_one, List.getElem?_eq_getElem (by omega), List.sum_append]; simp
        rw [elemI (by omega), e, w64_id (by omega) (by omega), ← es]
        exact ih (i + 1) (by omega) (by omega)
      · rw [if_neg hc, show k.toNat = i by omega]
  refine e_distribution_Below _ _ ?_
  rw [callD_of (c_DValid h), brn_nt]
  exact key l.length 0 (by omega) (by omega)

theorem c_DCount {l : List Int} (h : DG l) : cw f_distribution_Count [aD l] [] = some (r_distribution_Count.enc l.sum) := by
  refine e_distribution_Count _ ?_
  have := c_Below h (l.length : Int)
  rw [Int.toNat_natCast, List.take_length] at this
  show callD r_distribution_Below (cw f_distribution_Below [aD l, I ((List.map dI_i64.enc l).length : Int)] []) _ = _
  rw [lenI, callD_of this]

theorem c_check {l : List Int} (h : DG l) (h0 : 0 < l.sum) : cw f_distribution_check [aD l] [] = some (r_distribution_check.enc (l.sum, 0)) := by
  refine e_distribution_check _ ?_
  rw [callD_of (c_DValid h), brn_nt, callD_of (c_DCount h), brn_f (beq_false_of_ne (by omega))]

/-- the sum of all scores -/
def sc (i : Nat) : List Int → Int
  | [] => 0
  | c :: r => (i : Int) * c + sc (i + 1) r

theorem sc_bd : ∀ (l : List Int) (i : Nat), (∀ c ∈ l, 0 ≤ c ∧ c ≤ 1000) → i + l.length ≤ 201 → 0 ≤ sc i l ∧ sc i l ≤ 201 * l.sum
  | [], i, _, _ => by simp [sc]
  | c :: l, i, h, hi => by
    simp only [List.length_cons] at hi
    have h1 := sc_bd l (i + 1) (fun x hx => h x (by simp [hx])) (by omega)
    have h2 := h c (by simp)
    have h3 : (i : Int) * c ≤ 201 * c := Int.mul_le_mul_of_nonneg_right (by omega) h2.1
    have h4 : 0 ≤ (i : Int) * c := Int.mul_nonneg (by omega) h2.1
    simp only [sc, List.sum_cons]
    omega

theorem sc_drop {l : List Int} {i : Nat} (hi : i < l.length) : sc i (l.drop i) = (i : Int) * l[i] + sc (i + 1) (l.drop (i + 1)) := by
  rw [List.drop_eq_getElem_cons hi]; rfl

theorem DG.sc {l : List Int} (h : DG l) (i : Nat) (hi : i ≤ l.length) : 0 ≤ sc i (l.drop i) ∧ sc i (l.drop i) ≤ 40401000 := by
  have h1 := sc_bd (l.drop i) i (fun c hc => h.2.2 c (List.mem_of_mem_drop hc)) (by rw [List.length_drop]; have := h.2.1; omega)
  have := h.drop i
  omega

theorem c_scores {l : List Int} (h : DG l) : cw f_distribution_sumOfScores [aD l] [] = some (r_distribution_sumOfScores.enc (sc 0 l)) := by
  have hl2 := h.2.1
  have key : ∀ (k i : Nat) (s : Int), i + k = l.length → 0 ≤ s → s + sc i (l.drop i) = sc 0 l → k_distribution_sumOfScores_1 ⟨l⟩ s (i : Int) = some (r_distribution_sumOfScores.enc (sc 0 l)) := by
    have hall := h.sc 0 (by omega)
    rw [List.drop_zero] at hall
    intro k
    induction k with
    | zero =>
      intro i s hi h0 he
      refine t_distribution_sumOfScores_1 _ _ _ ?_
      rw [List.drop_eq_nil_of_le (by omega)] at he
      simp only [sc, Int.add_zero] at he
      rw [brn_dec, if_neg (by show ¬ (i : Int) < ((List.map dI_i64.enc l).length : Int); rw [lenI]; omega), he]
    | succ k ih =>
      intro i s hi h0 he
      have e : w64 ((i : Int) + 1) = ((i + 1 : Nat) : Int) := by rw [w64_id (by omega) (by omega)]; omega
      have ha := h.at (show i < l.length by omega)
      have hd := h.sc (i + 1) (by omega)
      have hsd := sc_drop (show i < l.length by omega)
      have m1 : (i : Int) * l[i] ≤ 201 * l[i] := Int.mul_le_mul_of_nonneg_right (by omega) ha.1
      have m2 : 0 ≤ (i : Int) * l[i] := Int.mul_nonneg (by omega) ha.1
      refine t_distribution_sumOfScores_1 _ _ _ ?_
      rw [brn_dec, if_pos (by show (i : Int) < ((List.map dI_i64.enc l).length : Int); rw [lenI]; omega), chk_pos (by omega), Int.toNat_natCast]
      show elemD dI_i64 (List.map dI_i64.enc l) i _ = _
      rw [elemI (by omega), e, w64_id (n := (i : Int) * l[i]) (by omega) (by omega), w64_id (by omega) (by omega)]
      exact ih (i + 1) _ (by omega) (by omega) (by omega)
  refine e_distribution_sumOfScores _ ?_
  exact key l.length 0 0 (by omega) (by omega) (by simp)

/-- the sum of the distances from the mean, times the number -/
def dv (n S : Int) (i : Nat) : List Int → Int
  | [] => 0
  | c :: r => c * ((((i : Int) * n - S).natAbs : Nat) : Int) + dv n S (i + 1) r

theorem dv_bd (n S : Int) (hn : 0 ≤ n ∧ n ≤ 201000) (hS : 0 ≤ S ∧ S ≤ 40401000) : ∀ (l : List Int) (i : Nat), (∀ c ∈ l, 0 ≤ c ∧ c ≤ 1000) → i + l.length ≤ 201 → 0 ≤ dv n S i l ∧ dv n S i l ≤ 100000000 * l.sum
  | [], i, _, _ => by simp [dv]
  | c :: l, i, h, hi => by
    simp only [List.length_cons] at hi
    have h1 := dv_bd n S hn hS l (i + 1) (fun x hx => h x (by simp [hx])) (by omega)
    have h2 := h c (by simp)
    have m1 : (i : Int) * n ≤ 201 * n := Int.mul_le_mul_of_nonneg_right (by omega) hn.1
    have m2 : 0 ≤ (i : Int) * n := Int.mul_nonneg (by omega) hn.1
    have h3 : ((((i : Int) * n - S).natAbs : Nat) : Int) ≤ 100000000 := by omega
    have h4 : c * ((((i : Int) * n - S).natAbs : Nat) : Int) ≤ c * 100000000 := Int.mul_le_mul_of_nonneg_left h3 h2.1
    have h5 : 0 ≤ c * ((((i : Int) * n - S).natAbs : Nat) : Int) := Int.mul_nonneg h2.1 (by omega)
    simp only [dv, List.sum_cons]
    omega

theorem dv_drop {n S : Int} {l : List Int} {i : Nat} (hi : i < l.length) : dv n S i (l.drop i) = l[i] * ((((i : Int) * n - S).natAbs : Nat) : Int) + dv n S (i + 1) (l.drop (i + 1)) := by
  rw [List.drop_eq_getElem_cons hi]; rfl

theorem absI (x : Int) (h1 : -100000000 ≤ x) (h2 : x ≤ 100000000) : (if w64 (0 - x) > x then w64 (0 - x) else x) = ((x.natAbs : Nat) : Int) := by
  rw [w64_id (by omega) (by omega)]
  split <;> omega

/-- the mean, and the mean distance from it -/
def mn (l : List Int) : Rat := mkRat (sc 0 l) l.sum.toNat
def dvn (l : List Int) : Rat := mkRat (dv l.sum (sc 0 l) 0 l) (l.sum * l.sum).toNat

theorem c_DMean {l : List Int} (h : DG l) (h0 : 0 < l.sum) : cw f_distribution_Mean [aD l] [] = some (r_distribution_Mean.enc (ofR (mn l), 0)) := by
  have hs := h.sum
  have hc := h.sc 0 (by omega)
  rw [List.drop_zero] at hc
  have e : l.sum = ((l.sum.toNat : Nat) : Int) := by omega
  have hn := c_New (sc 0 l) l.sum.toNat (by omega) (by omega) (by omega)
  rw [← e] at hn
  refine e_distribution_Mean _ ?_
  rw [callD_of (c_check h h0), brn_f (by rfl), callD_of (c_scores h), callD_of hn]
  rfl

theorem c_DDev {l : List Int} (h : DG l) (h0 : 0 < l.sum) : cw f_distribution_Deviation [aD l] [] = some (r_distribution_Deviation.enc (ofR (dvn l), 0)) := by
  have hs := h.sum
  have hl2 := h.2.1
  have hc := h.sc 0 (by omega)
  rw [List.drop_zero] at hc
  have hsq : 0 < l.sum * l.sum := Int.mul_pos h0 h0
  have hsq2 : l.sum * l.sum ≤ 201000 * 201000 := Int.mul_le_mul hs.2 hs.2 hs.1 (by omega)
  have hD : ∀ i, i ≤ l.length → 0 ≤ dv l.sum (sc 0 l) i (l.drop i) ∧ dv l.sum (sc 0 l) i (l.drop i) ≤ 20100000000000 := fun i hi => by
    have h1 := dv_bd l.sum (sc 0 l) hs hc (l.drop i) i (fun c hc => h.2.2 c (List.mem_of_mem_drop hc)) (by rw [List.length_drop]; omega)
    have := h.drop i
    omega
  have hD0 := hD 0 (by omega)
  rw [List.drop_zero] at hD0
  have e : l.sum * l.sum = (((l.sum * l.sum).toNat : Nat) : Int) := by omega
  have hn := c_New (dv l.sum (sc 0 l) 0 l) (l.sum * l.sum).toNat (by omega) (by omega) (by omega)
  rw [← e] at hn
  have key : ∀ (k i : Nat) (s : Int), i + k = l.length → 0 ≤ s → s + dv l.sum (sc 0 l) i (l.drop i) = dv l.sum (sc 0 l) 0 l → k_distribution_Deviation_1 ⟨l⟩ (l.sum, 0) (sc 0 l) s (i : Int) = some (r_distribution_Deviation.enc (ofR (dvn l), 0)) := by
    intro k
    induction k with
    | zero =>
      intro i s hi hs0 he
      refine t_distribution_Deviation_1 _ _ _ _ _ ?_
      rw [List.drop_eq_nil_of_le (by omega)] at he
      simp only [dv, Int.add_zero] at he
      rw [brn_dec, if_neg (by show ¬ (i : Int) < ((List.map dI_i64.enc l).length : Int); rw [lenI]; omega), he, w64_id (n := l.sum * l.sum) (by omega) (by omega), callD_of hn]
      rfl
    | succ k ih =>
      intro i s hi hs0 he
      have e1 : w64 ((i : Int) + 1) = ((i + 1 : Nat) : Int) := by rw [w64_id (by omega) (by omega)]; omega
      have ha := h.at (show i < l.length by omega)
      have hd := hD (i + 1) (by omega)
      have hsd := dv_drop (n := l.sum) (S := sc 0 l) (show i < l.length by omega)
      have m1 : (i : Int) * l.sum ≤ 201 * l.sum := Int.mul_le_mul_of_nonneg_right (by omega) hs.1
      have m2 : 0 ≤ (i : Int) * l.sum := Int.mul_nonneg (by omega) hs.1
      have h3 : ((((i : Int) * l.sum - sc 0 l).natAbs : Nat) : Int) ≤ 100000000 := by omega
      have h4 : l[i] * ((((i : Int) * l.sum - sc 0 l).natAbs : Nat) : Int) ≤ l[i] * 100000000 := Int.mul_le_mul_of_nonneg_left h3 ha.1
      have h5 : 0 ≤ l[i] * ((((i : Int) * l.sum - sc 0 l).natAbs : Nat) : Int) := Int.mul_nonneg ha.1 (by omega)
      refine t_distribution_Deviation_1 _ _ _ _ _ ?_
      rw [brn_dec, if_pos (by show (i : Int) < ((List.map dI_i64.enc l).length : Int); rw [lenI]; omega), chk_pos (by omega), Int.toNat_natCast]
      show elemD dI_i64 (List.map dI_i64.enc l) i _ = _
      rw [elemI (by omega), e1]
      dsimp only
      rw [w64_id (n := (i : Int) * l.sum) (by omega) (by omega), w64_id (n := (i : Int) * l.sum - sc 0 l) (by omega) (by omega), absI _ (by omega) (by omega), w64_id (n := l[i] * _) (by omega) (by omega), w64_id (by omega) (by omega)]
      exact ih (i + 1) _ (by omega) (by omega) (by omega)
  refine e_distribution_Deviation _ ?_
  rw [callD_of (c_check h h0), brn_f (by rfl), callD_of (c_scores h)]
  exact key l.length 0 0 (by omega) (by omega) (by simp)
end Go.Proofs.Ytapkemilafogjaa
