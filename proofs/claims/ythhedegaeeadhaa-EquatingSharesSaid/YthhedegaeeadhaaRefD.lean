/- Distributions: what the reference computes of them; those that the dice make. -/
import Derived.Test.YthhedegaeeadhaaDist
namespace Go.Proofs.Ythhedegaeeadhaa
open Go.Ab Go.Pure
set_option linter.unusedVariables false

theorem c_rDValid {l : List Int} (h : DG l) : cw f_ref32_Valid [aD l] [] = some (r_ref32_Valid.enc true) := by
  have hs := h.sum
  have key : ∀ (k i : Nat) (s : Int), i + k = l.length → s + (l.drop i).sum = l.sum → 0 ≤ s → k_ref32_Valid_1 ⟨l⟩ s (i : Int) = some (r_ref32_Valid.enc true) := by
    intro k
    induction k with
    | zero =>
      intro i s hi he h0
      refine t_ref32_Valid_1 _ _ _ ?_
      rw [brn_dec, if_neg (by show ¬ (i : Int) < ((List.map dI_i64.enc l).length : Int); rw [lenI]; omega)]
    | succ k ih =>
      intro i s hi he h0
      have hd := h.drop (i + 1)
      have ha := h.at (show i < l.length by omega)
      have hsum := drop_sum (show i < l.length by omega)
      have e : w64 ((i : Int) + 1) = ((i + 1 : Nat) : Int) := by rw [w64_id (by have := h.2.1; omega) (by have := h.2.1; omega)]; omega
      refine t_ref32_Valid_1 _ _ _ ?_
      rw [brn_dec, if_pos (by show (i : Int) < ((List.map dI_i64.enc l).length : Int); rw [lenI]; omega), chk_pos (by omega), Int.toNat_natCast]
      show elemD dI_i64 (List.map dI_i64.enc l) i _ = _
      rw [elemI (by omega), brn_dec, if_neg (by omega), chk_pos (by omega)]
      show elemD dI_i64 (List.map dI_i64.enc l) i _ = _
      rw [elemI (by omega), brn_dec, w64_id (n := 1048576 - s) (by omega) (by omega), if_neg (by omega), chk_pos (by omega)]
      show elemD dI_i64 (List.map dI_i64.enc l) i _ = _
      rw [elemI (by omega), e, w64_id (by omega) (by omega)]
      exact ih (i + 1) (s + l[i]) (by omega) (by omega) (by omega)
  refine e_ref32_Valid _ ?_
  rw [brn_dec, if_neg (by show ¬ ((List.map dI_i64.enc l).length : Int) < 1; rw [lenI]; have := h.1; omega), brn_dec, if_neg (by show ¬ (201 : Int) < ((List.map dI_i64.enc l).length : Int); rw [lenI]; have := h.2.1; omega)]
  exact key l.length 0 0 (by omega) (by simp) (by omega)

theorem c_rBelow {l : List Int} (h : DG l) (k : Int) : cw f_ref32_Below [aD l, I k] [] = some (r_ref32_Below.enc (l.take k.toNat).sum) := by
  have hl2 := h.2.1
  have key : ∀ (m i : Nat), i + m = l.length → i ≤ k.toNat → k_ref32_Below_1 ⟨l⟩ k (l.take i).sum (i : Int) = some (r_ref32_Below.enc (l.take k.toNat).sum) := by
    intro m
    induction m with
    | zero =>
      intro i hi hk
      refine t_ref32_Below_1 _ _ _ _ ?_
      rw [brn_dec, if_neg (by show ¬ (i : Int) < ((List.map dI_i64.enc l).length : Int); rw [lenI]; omega), List.take_of_length_le (by omega), List.take_of_length_le (by omega)]
    | succ m ih =>
      intro i hi hk
      have e : w64 ((i : Int) + 1) = ((i + 1 : Nat) : Int) := by rw [w64_id (by omega) (by omega)]; omega
      have ht := h.take i
      have ha := h.at (show i < l.length by omega)
      refine t_ref32_Below_1 _ _ _ _ ?_
      rw [brn_dec, if_pos (by show (i : Int) < ((List.map dI_i64.enc l).length : Int); rw [lenI]; omega), brn_dec]
      by_cases hc : (i : Int) < k
      · rw [if_pos hc, callD_of (c_rDValid h), brn_T, chk_pos (by omega), Int.toNat_natCast]
        show elemD dI_i64 (List.map dI_i64.enc l) i _ = _
        have es : (l.take (i + 1)).sum = (l.take i).sum + l[i] := by rw [List.take_add_one, List.getElem?_eq_getElem (by omega), List.sum_append]; simp
        rw [elemI (by omega), e, w64_id (by omega) (by omega), ← es]
        exact ih (i + 1) (by omega) (by omega)
      · rw [if_neg hc, show k.toNat = i by omega]
  refine e_ref32_Below _ _ ?_
  exact key l.length 0 (by omega) (by omega)

theorem c_rCount {l : List Int} (h : DG l) : cw f_ref32_Count [aD l] [] = some (r_ref32_Count.enc l.sum) := by
  refine e_ref32_Count _ ?_
  have := c_rBelow h (l.length : Int)
  rw [Int.toNat_natCast, List.take_length] at this
  show callD r_ref32_Below (cw f_ref32_Below [aD l, I ((List.map dI_i64.enc l).length : Int)] []) _ = _
  rw [lenI, callD_of this]

theorem c_rWrong {l : List Int} (h : DG l) (h0 : 0 < l.sum) : cw f_ref32_wrong [aD l] [] = some (r_ref32_wrong.enc 0) := by
  refine e_ref32_wrong _ ?_
  rw [callD_of (c_rDValid h), brn_nt, callD_of (c_rCount h), brn_f (beq_false_of_ne (by omega))]

theorem c_rScores {l : List Int} (h : DG l) : cw f_ref32_sum [aD l] [] = some (r_ref32_sum.enc (sc 0 l)) := by
  have hl2 := h.2.1
  have key : ∀ (k i : Nat) (s : Int), i + k = l.length → 0 ≤ s → s + sc i (l.drop i) = sc 0 l → k_ref32_sum_1 ⟨l⟩ s (i : Int) = some (r_ref32_sum.enc (sc 0 l)) := by
    have hall := h.sc 0 (by omega)
    rw [List.drop_zero] at hall
    intro k
    induction k with
    | zero =>
      intro i s hi h0 he
      refine t_ref32_sum_1 _ _ _ ?_
      rw [List.drop_eq_nil_of_le (by omega)] at he
      simp only [sc, Int.add_zero] at he
      rw [brn_dec, if_neg (by show ¬ (i : Int) < ((List.map dI_i64.enc l).length : Int); rw [lenI]; omega), he]
    | succ k ih =>
      intro i s hi h0 he
      have e : w64 ((i : Int) + 1) = ((i + 1 : Nat) : Int) := by rw [w64_id (by omega) (by omega)]; omega
      have ha := h.at (show i < l.length by omega)
      have hd := h.sc (i + 1) (by omega)
      have hsd := sc_drop (show i < l.length by omega)
      have m1 : (i : Int) * l[i] ≤ 201 * l[i] := Int.mul_le_mul_of_nonneg_right (by omega) ha.1
      have m2 : 0 ≤ (i : Int) * l[i] := Int.mul_nonneg (by omega) ha.1
      refine t_ref32_sum_1 _ _ _ ?_
      rw [brn_dec, if_pos (by show (i : Int) < ((List.map dI_i64.enc l).length : Int); rw [lenI]; omega), chk_pos (by omega), Int.toNat_natCast]
      show elemD dI_i64 (List.map dI_i64.enc l) i _ = _
      rw [elemI (by omega), e, w64_id (n := (i : Int) * l[i]) (by omega) (by omega), w64_id (by omega) (by omega)]
      exact ih (i + 1) _ (by omega) (by omega) (by omega)
  refine e_ref32_sum _ ?_
  exact key l.length 0 0 (by omega) (by omega) (by simp)

theorem c_rMean {l : List Int} (h : DG l) (h0 : 0 < l.sum) : cw f_ref32_Mean [aD l] [] = some (r_ref32_Mean.enc (ofR (mn l), 0)) := by
  have hs := h.sum
  have hc := h.sc 0 (by omega)
  rw [List.drop_zero] at hc
  have e : l.sum = ((l.sum.toNat : Nat) : Int) := by omega
  have hn := c_rNew (sc 0 l) l.sum.toNat (by omega) (by omega) (by omega)
  rw [← e] at hn
  refine e_ref32_Mean _ ?_
  rw [callD_of (c_rWrong h h0), brn_f (by rfl), callD_of (c_rScores h), callD_of (c_rCount h), callD_of hn]
  rfl

theorem c_rDev {l : List Int} (h : DG l) (h0 : 0 < l.sum) : cw f_ref32_Deviation [aD l] [] = some (r_ref32_Deviation.enc (ofR (dvn l), 0)) := by
  have hs := h.sum
  have hl2 := h.2.1
  have hc := h.sc 0 (by omega)
  rw [List.drop_zero] at hc
  have hsq : 0 < l.sum * l.sum := Int.mul_pos h0 h0
  have hsq2 : l.sum * l.sum ≤ 201000 * 201000 := Int.mul_le_mul hs.2 hs.2 hs.1 (by omega)
  have hD : ∀ i, i ≤ l.length → 0 ≤ dv l.sum (sc 0 l) i (l.drop i) ∧ dv l.sum (sc 0 l) i (l.drop i) ≤ 20100000000000 := fun i hi => by
    have h1 := dv_bd l.sum (sc 0 l) hs hc (l.drop i) i (fun c hc => h.2.2 c (List.mem_of_mem_drop hc)) (by rw [List.length_drop]; omega)
    have := h.drop i
    omega
  have hD0 := hD 0 (by omega)
  rw [List.drop_zero] at hD0
  have e : l.sum * l.sum = (((l.sum * l.sum).toNat : Nat) : Int) := by omega
  have hn := c_rNew (dv l.sum (sc 0 l) 0 l) (l.sum * l.sum).toNat (by omega) (by omega) (by omega)
  rw [← e] at hn
  have key : ∀ (k i : Nat) (s : Int), i + k = l.length → 0 ≤ s → s + dv l.sum (sc 0 l) i (l.drop i) = dv l.sum (sc 0 l) 0 l → k_ref32_Deviation_1 ⟨l⟩ l.sum (sc 0 l) s (i : Int) = some (r_ref32_Deviation.enc (ofR (dvn l), 0)) := by
    intro k
    induction k with
    | zero =>
      intro i s hi hs0 he
      refine t_ref32_Deviation_1 _ _ _ _ _ ?_
      rw [List.drop_eq_nil_of_le (by omega)] at he
      simp only [dv, Int.add_zero] at he
      rw [brn_dec, if_neg (by show ¬ (i : Int) < ((List.map dI_i64.enc l).length : Int); rw [lenI]; omega), he, w64_id (n := l.sum * l.sum) (by omega) (by omega), callD_of hn]
      rfl
    | succ k ih =>
      intro i s hi hs0 he
      have e1 : w64 ((i : Int) + 1) = ((i + 1 : Nat) : Int) := by rw [w64_id (by omega) (by omega)]; omega
      have ha := h.at (show i < l.length by omega)
      have hd := hD (i + 1) (by omega)
      have hsd := dv_drop (n := l.sum) (S := sc 0 l) (show i < l.length by omega)
      have m1 : (i : Int) * l.sum ≤ 201 * l.sum := Int.mul_le_mul_of_nonneg_right (by omega) hs.1
      have m2 : 0 ≤ (i : Int) * l.sum := Int.mul_nonneg (by omega) hs.1
      have h3 : ((((i : Int) * l.sum - sc 0 l).natAbs : Nat) : Int) ≤ 100000000 := by omega
      have h4 : l[i] * ((((i : Int) * l.sum - sc 0 l).natAbs : Nat) : Int) ≤ l[i] * 100000000 := Int.mul_le_mul_of_nonneg_left h3 ha.1
      have h5 : 0 ≤ l[i] * ((((i : Int) * l.sum - sc 0 l).natAbs : Nat) : Int) := Int.mul_nonneg ha.1 (by omega)
      refine t_ref32_Deviation_1 _ _ _ _ _ ?_
      rw [brn_dec, if_pos (by show (i : Int) < ((List.map dI_i64.enc l).length : Int); rw [lenI]; omega), chk_pos (by omega), Int.toNat_natCast]
      show elemD dI_i64 (List.map dI_i64.enc l) i _ = _
      rw [elemI (by omega), e1, w64_id (n := (i : Int) * l.sum) (by omega) (by omega), w64_id (n := (i : Int) * l.sum - sc 0 l) (by omega) (by omega), absI _ (by omega) (by omega), w64_id (n := l[i] * _) (by omega) (by omega), w64_id (by omega) (by omega)]
      exact ih (i + 1) _ (by omega) (by omega) (by omega)
  refine e_ref32_Deviation _ ?_
  rw [callD_of (c_rWrong h h0), brn_f (by rfl), callD_of (c_rCount h), callD_of (c_rScores h)]
  exact key l.length 0 0 (by omega) (by omega) (by simp)

/-! ## the dice -/

theorem c_Pick (d : GmarkDice) (l : List Int) (hd : DOk d) (hl : l ≠ []) (hl2 : l.length ≤ 1000) :
    ∃ (r : Int) (d' : GmarkDice), cw f_mark_Dice_Pick [.loc 1000 2 0 0, .sl 1 (List.map dI_i64.enc l)] (mD d) = some (r_mark_Dice_Pick.enc (r, d')) ∧ r ∈ l ∧ DOk d' := by
  obtain ⟨r, d', h, h0, h1, hd'⟩ := c_Next d l.length hd (by omega)
  have hpos : 0 < l.length := List.length_pos_iff.2 hl
  have hlt : r.toNat < l.length := by omega
  refine ⟨l[r.toNat], d', e_mark_Dice_Pick d l ?_, List.getElem_mem hlt, hd'⟩
  rw [List.length_map, callD_of h, chk_pos h0, elemD_get hlt]

theorem k_Distribution (e : Int) (he : e = 0 ∨ e = 1) : ∀ (k : Nat) (l : List Int) (d : GmarkDice), DOk d → l.length + k ≤ 100 → (∀ c ∈ l, e ≤ c ∧ c ≤ e + 5) →
    ∃ (m : List Int) (d' : GmarkDice), k_mark_Dice_Distribution_1 (List.map dI_i64.enc l) d e (k : Int) = some (r_mark_Dice_Distribution.enc (⟨m⟩, d')) ∧ DOk d' ∧ m.length = l.length + k ∧ ∀ c ∈ m, e ≤ c ∧ c ≤ e + 5
  | 0, l, d, hd, hk, hl => by
    refine ⟨l, d, t_mark_Dice_Distribution_1 _ _ _ _ ?_, hd, rfl, hl⟩
    rw [brn_dec, if_neg (by omega), chk_pos (by omega), List.take_length]
  | k + 1, l, d, hd, hk, hl => by
    obtain ⟨r, d1, h1, hr, hd1⟩ := c_Pick d [0, 1, 2, 5, 0] hd (by simp) (by simp)
    have hr' : 0 ≤ r ∧ r ≤ 5 := by
      simp only [List.mem_cons, List.not_mem_nil, or_false] at hr
      omega
    obtain ⟨m, d', h2, h3, h4, h5⟩ := k_Distribution e he k (l ++ [e + r]) d1 hd1 (by simp; omega) (by
      intro c hc
      rcases List.mem_append.1 hc with hc | hc
      · exact hl c hc
      · rw [List.mem_singleton.1 hc]; omega)
    refine ⟨m, d', t_mark_Dice_Distribution_1 _ _ _ _ ?_, h3, by rw [h4]; simp; omega, h5⟩
    have ek : w64 (((k + 1 : Nat) : Int) - 1) = (k : Int) := by rw [w64_id (by omega) (by omega)]; omega
    rw [brn_dec, if_pos (by omega), callD_of h1, chk_pos rfl, chk_pos (by rw [List.length_map]; omega), ek]
    show k_mark_Dice_Distribution_1 (List.map dI_i64.enc l ++ [dI_i64.enc (w64 (e + r))]) d1 e k = _
    rw [w64_id (by omega) (by omega), ← h2, List.map_append, List.map_cons, List.map_nil]

theorem c_Distribution (d : GmarkDice) (n : Int) (full : Bool) (hd : DOk d) (hn : 0 ≤ n) (hn2 : n ≤ 50) :
    ∃ (m : List Int) (d' : GmarkDice), cw f_mark_Dice_Distribution [.loc 1000 2 0 0, I n, B full] (mD d) = some (r_mark_Dice_Distribution.enc (⟨m⟩, d')) ∧ DOk d' ∧ 1 ≤ m.length ∧ (m.length : Int) ≤ n + 1 ∧ ∀ c ∈ m, (if full = true then 1 else 0) ≤ c ∧ c ≤ (if full = true then 1 else 0) + 5 := by
  have hw : w64 (n + 1) = n + 1 := w64_id (by omega) (by omega)
  obtain ⟨r, d1, h1, r0, r1, hd1⟩ := c_Next d (n + 1) hd (by omega)
  have e1 : w64 (1 + r) = (((1 + r).toNat : Nat) : Int) := by rw [w64_id (by omega) (by omega)]; omega
  cases full with
  | true =>
    obtain ⟨m, d', h2, h3, h4, h5⟩ := k_Distribution 1 (.inr rfl) (1 + r).toNat [] d1 hd1 (by simp; omega) (by simp)
    simp only [List.length_nil] at h4
    refine ⟨m, d', e_mark_Dice_Distribution d n true ?_, h3, by omega, by omega, h5⟩
    rw [brn_T, hw, callD_of h1]
    show k_mark_Dice_Distribution_1 [] d1 1 (w64 (1 + r)) = _
    rw [e1]; exact h2
  | false =>
    obtain ⟨m, d', h2, h3, h4, h5⟩ := k_Distribution 0 (.inl rfl) (1 + r).toNat [] d1 hd1 (by simp; omega) (by simp)
    simp only [List.length_nil] at h4
    refine ⟨m, d', e_mark_Dice_Distribution d n false ?_, h3, by omega, by omega, h5⟩
    rw [brn_F, hw, callD_of h1]
    show k_mark_Dice_Distribution_1 [] d1 0 (w64 (1 + r)) = _
    rw [e1]; exact h2
end Go.Proofs.Ythhedegaeeadhaa
