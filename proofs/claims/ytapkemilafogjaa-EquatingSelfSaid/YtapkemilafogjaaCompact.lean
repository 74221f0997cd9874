/- slices.Compact: what is kept. -/
import Derived.Test.YtapkemilafogjaaSort
namespace Go.Proofs.Ytapkemilafogjaa
open Go.Ab Go.Sort
set_option linter.unusedVariables false

deriving instance DecidableEq for GRatio

/-- the elements among the first q that differ from the one before them -/
def dq (l : List GRatio) : Nat → List GRatio
  | 0 => []
  | q + 1 => dq l q ++ (if q ≠ 0 ∧ l[q]! = l[q - 1]! then [] else [l[q]!])

theorem dq_len (l : List GRatio) : ∀ q, (dq l q).length ≤ q
  | 0 => by simp [dq]
  | q + 1 => by
    have := dq_len l q
    simp only [dq, List.length_append]
    split <;> simp <;> omega

theorem eqG (x y : GRatio) : (x.Num == y.Num && (x.Den == y.Den && true)) = decide (x = y) := by
  cases x; cases y
  rw [Bool.eq_iff_iff]
  simp

theorem getL {l : List GRatio} {i : Nat} (h : i < l.length) : l[i]? = some l[i]! := by
  rw [getElem!_pos l i h, List.getElem?_eq_getElem h]

theorem rdL2 {β : Type} {l : List GRatio} {i : Nat} (hi : i < l.length) (K : GRatio → Option β) : elemD dGRatio (List.map dGRatio.enc l) i K = K l[i]! :=
  elemD_map (D := dGRatio) (getL hi) K

noncomputable abbrev rCp (n : Nat) (l : List GRatio) : AV × Mem := r_slices_Compact_api_Ratio_api_Ratio.enc (n, l)

theorem k_compact2 (l : List GRatio) (i : Nat) (hl : l.length ≤ 100000) (hi : 1 ≤ i) : ∀ (k q : Nat) (e : List GRatio) (p : Nat), q + k = l.length → i < q → p < q → e.length = l.length → p = (dq l q).length → e.take p = dq l q → (∀ j, p ≤ j → e[j]! = l[j]!) →
    ∃ l', k_slices_Compact_api_Ratio_api_Ratio_2 l (i : Int) (List.map dGRatio.enc e) (p : Int) ((q - i : Nat) : Int) = some (rCp (dq l l.length).length l') ∧ l'.take (dq l l.length).length = dq l l.length ∧ l'.length = l.length := by
  intro k
  induction k with
  | zero =>
    intro q e p hk hiq hpq he hp ht hrest
    have hq : q = l.length := by omega
    subst hq
    refine ⟨e.take p ++ List.replicate (l.length - p) ⟨0, 0⟩ ++ e.drop (p + (l.length - p)), t_slices_Compact_api_Ratio_api_Ratio_2 _ _ _ _ _ ?_, ?_, ?_⟩
    · simp only [List.length_map, Int.toNat_natCast]
      rw [brn_dec, if_neg (by omega), chk_pos (by omega), chk_pos (by omega), chk_pos (by omega), chk_pos (by omega), chk_pos (by omega), chk_pos (by omega), chk_pos (by omega)]
      rw [← hp]
      simp only [Nat.zero_add, Nat.sub_zero, ← List.map_take, ← List.map_drop]
      show some (AV.row 1000 2 0 p, _) = some (AV.row 1000 2 0 p, _)
      congr 4
      simp only [List.map_append, List.map_replicate]
    · rw [← hp, List.append_assoc, List.take_append_of_le_length (by simp; omega), List.take_take, Nat.min_self, ht]
    · simp; omega
  | succ k ih =>
    intro q e p hk hiq hpq he hp ht hrest
    have e1 : w64 (((q - i : Nat) : Int) - 1) = ((q - i - 1 : Nat) : Int) := by rw [w64_id (by omega) (by omega)]; omega
    have e2 : w64 (((q - i : Nat) : Int) + 1) = ((q + 1 - i : Nat) : Int) := by rw [w64_id (by omega) (by omega)]; omega
    have eq1 : e[q]! = l[q]! := hrest q (by omega)
    have eq2 : e[q - 1]! = l[q - 1]! := hrest (q - 1) (by omega)
    by_cases hd : l[q]! = l[q - 1]!
    · have hdq : dq l (q + 1) = dq l q := by simp only [dq]; rw [if_pos ⟨by omega, hd⟩, List.append_nil]
      obtain ⟨l', h1, h2⟩ := ih (q + 1) e p (by omega) (by omega) (by omega) he (by rw [hdq]; exact hp) (by rw [hdq]; exact ht) hrest
      refine ⟨l', t_slices_Compact_api_Ratio_api_Ratio_2 _ _ _ _ _ ?_, h2⟩
      simp only [List.length_map, Int.toNat_natCast, e1, e2]
      rw [brn_dec, if_pos (by omega), chk_pos (by omega), chk_pos (by omega), rdL2 (by omega), chk_pos (by omega), chk_pos (by omega), rdL2 (by omega), brn_not, eqG]
      have a1 : 0 + i + (q - i) = q := by omega
      have a2 : 0 + i + (q - i - 1) = q - 1 := by omega
      rw [a1, a2, eq1, eq2, hd, decide_eq_true rfl, brn_true]
      exact h1
    · have hdq : dq l (q + 1) = dq l q ++ [l[q]!] := by simp only [dq]; rw [if_neg (fun h => hd h.2)]
      obtain ⟨l', h1, h2⟩ := ih (q + 1) (e.set p l[q]!) (p + 1) (by omega) (by omega) (by omega) (by simp [he]) (by rw [hdq, List.length_append, ← hp]; rfl) (by
          rw [hdq, List.take_add_one, List.take_set_of_le (Nat.le_refl _), ht, List.getElem?_set_self (by omega)]
          rfl) (fun j hj => by
          rw [List.getElem!_eq_getElem?_getD, List.getElem?_set_ne (by omega), ← List.getElem!_eq_getElem?_getD]
          exact hrest j (by omega))
      refine ⟨l', t_slices_Compact_api_Ratio_api_Ratio_2 _ _ _ _ _ ?_, h2⟩
      simp only [List.length_map, Int.toNat_natCast, e1, e2]
      rw [brn_dec, if_pos (by omega), chk_pos (by omega), chk_pos (by omega), rdL2 (by omega), chk_pos (by omega), chk_pos (by omega), rdL2 (by omega), brn_not, eqG]
      have a1 : 0 + i + (q - i) = q := by omega
      have a2 : 0 + i + (q - i - 1) = q - 1 := by omega
      rw [a1, a2, eq1, eq2, decide_eq_false hd, brn_false, chk_pos (by omega), chk_pos (by omega), rdL2 (by omega), chk_pos (by omega), chk_pos (by omega), rdL2 (by omega), up1 (by omega), eq1, Nat.zero_add, ← List.map_set]
      exact h1

theorem k_compact1 (l : List GRatio) (hl : l.length ≤ 100000) : ∀ (k i : Nat), i + k = l.length → 1 ≤ i → dq l i = l.take i →
    ∃ l', k_slices_Compact_api_Ratio_api_Ratio_1 l (i : Int) = some (rCp (dq l l.length).length l') ∧ l'.take (dq l l.length).length = dq l l.length ∧ l'.length = l.length := by
  intro k
  induction k with
  | zero =>
    intro i hk hi hd
    have hq : i = l.length := by omega
    subst hq
    have hlen : (dq l l.length).length = l.length := by rw [hd]; simp
    refine ⟨l, t_slices_Compact_api_Ratio_api_Ratio_1 _ _ ?_, by rw [hlen, hd], rfl⟩
    rw [List.length_map, brn_dec, if_neg (by omega), hlen]
  | succ k ih =>
    intro i hk hi hd
    have e1 := dn1 hi (show i ≤ 1000000 by omega)
    have htk : l.take (i + 1) = l.take i ++ [l[i]!] := by rw [List.take_add_one, getL (by omega)]; rfl
    by_cases hdd : l[i]! = l[i - 1]!
    · have hdq : dq l (i + 1) = dq l i := by simp only [dq]; rw [if_pos ⟨by omega, hdd⟩, List.append_nil]
      obtain ⟨l', h1, h2⟩ := k_compact2 l i hl hi k (i + 1) l i (by omega) (by omega) (by omega) rfl (by rw [hdq, hd]; simp; omega) (by rw [hdq, hd]) (fun _ _ => rfl)
      refine ⟨l', t_slices_Compact_api_Ratio_api_Ratio_1 _ _ ?_, h2⟩
      simp only [List.length_map, Int.toNat_natCast, e1]
      rw [brn_dec, if_pos (by omega), chk_pos (by omega), chk_pos (by omega), rdL2 (by omega), chk_pos (by omega), chk_pos (by omega), rdL2 (by omega), eqG, Nat.zero_add, Nat.zero_add, hdd, decide_eq_true rfl, brn_true, chk_pos (by omega), chk_pos (by omega), chk_pos (by omega)]
      have : ((i + 1 - i : Nat) : Int) = 1 := by omega
      rw [this] at h1
      exact h1
    · have hdq : dq l (i + 1) = dq l i ++ [l[i]!] := by simp only [dq]; rw [if_neg (fun h => hdd h.2)]
      obtain ⟨l', h1, h2⟩ := ih (i + 1) (by omega) (by omega) (by rw [hdq, hd, htk])
      refine ⟨l', t_slices_Compact_api_Ratio_api_Ratio_1 _ _ ?_, h2⟩
      simp only [List.length_map, Int.toNat_natCast, e1]
      rw [brn_dec, if_pos (by omega), chk_pos (by omega), chk_pos (by omega), rdL2 (by omega), chk_pos (by omega), chk_pos (by omega), rdL2 (by omega), eqG, Nat.zero_add, Nat.zero_add, decide_eq_false hdd, brn_false, up1 (by omega)]
      exact h1

theorem c_Compact (l : List GRatio) (hl : l.length ≤ 100000) :
    ∃ l', cw f_slices_Compact_api_Ratio_api_Ratio [.row 1000 2 0 (List.map dGRatio.enc l).length] [(1000, ⟨2, ty_api_Ratio, List.map dGRatio.enc l, false⟩)] = some (rCp (dq l l.length).length l') ∧ l'.take (dq l l.length).length = dq l l.length ∧ l'.length = l.length := by
  by_cases h2 : l.length < 2
  · have hd : dq l l.length = l := by
      match l, h2 with
      | [], _ => rfl
      | [x], _ => simp [dq]
    refine ⟨l, e_slices_Compact_api_Ratio_api_Ratio l ?_, by rw [hd]; simp, rfl⟩
    rw [List.length_map, brn_dec, if_pos (by omega), hd]
  · obtain ⟨l', h1, h3⟩ := k_compact1 l hl (l.length - 1) 1 (by omega) (by omega) (by
      have h0 : 0 < l.length := by omega
      simp [dq, List.take_one, List.head?_eq_getElem?, List.getElem?_eq_getElem h0])
    refine ⟨l', e_slices_Compact_api_Ratio_api_Ratio l ?_, h3⟩
    rw [List.length_map, brn_dec, if_neg (by omega)]
    exact h1

/-! ## what is kept of an ascending list -/
theorem dq_of (l : List GRatio) : ∀ q x, x ∈ dq l q → ∃ j, j < q ∧ x = l[j]!
  | 0, x, h => by simp [dq] at h
  | q + 1, x, h => by
    simp only [dq, List.mem_append] at h
    rcases h with h | h
    · obtain ⟨j, h1, h2⟩ := dq_of l q x h
      exact ⟨j, by omega, h2⟩
    · split at h
      · cases h
      · exact ⟨q, by omega, List.mem_singleton.1 h⟩

theorem dq_in (l : List GRatio) : ∀ q j, j < q → l[j]! ∈ dq l q
  | 0, j, h => by omega
  | q + 1, j, h => by
    simp only [dq, List.mem_append]
    by_cases hj : j < q
    · exact .inl (dq_in l q j hj)
    · have : j = q := by omega
      subst this
      split
      · rename_i hc
        rw [hc.2]
        exact .inl (dq_in l j (j - 1) (by omega))
      · exact .inr (by simp)

theorem dq_mem (l : List GRatio) (x : GRatio) : x ∈ dq l l.length ↔ x ∈ l := by
  constructor
  · intro h
    obtain ⟨j, h1, h2⟩ := dq_of l _ x h
    rw [h2]
    exact List.mem_of_getElem? (getL h1)
  · intro h
    obtain ⟨j, hj⟩ := List.getElem?_of_mem h
    have hlt := (List.getElem?_eq_some_iff.1 hj).1
    rw [getL hlt] at hj
    injection hj with hj
    rw [← hj]
    exact dq_in l _ j hlt

theorem dq_asc (l : List GRatio) (v : GRatio → Rat) (hv : ∀ x ∈ l, ∀ y ∈ l, v x = v y → x = y) (hs : l.Pairwise (fun x y => v x ≤ v y)) : ∀ q, q ≤ l.length → (dq l q).Pairwise (fun x y => v x < v y)
  | 0, _ => by simp [dq]
  | q + 1, hq => by
    have ih := dq_asc l v hv hs q (by omega)
    simp only [dq]
    split
    · rw [List.append_nil]; exact ih
    · rename_i hc
      rw [List.pairwise_append]
      refine ⟨ih, by simp, fun x hx y hy => ?_⟩
      simp at hy
      subst hy
      obtain ⟨j, hj, rfl⟩ := dq_of l q x hx
      have mem : ∀ j, j < l.length → l[j]! ∈ l := fun j hj => List.mem_of_getElem? (getL hj)
      have le : ∀ i j, i ≤ j → j < l.length → v l[i]! ≤ v l[j]! := by
        intro i j hij hjl
        by_cases he : i = j
        · subst he; exact Rat.le_refl
        · rw [List.pairwise_iff_getElem] at hs
          have := hs i j (by omega) hjl (by omega)
          rw [getElem!_pos l i (by omega), getElem!_pos l j hjl]
          exact this
      have h1 := le j (q - 1) (by omega) (by omega)
      have h2 := le (q - 1) q (by omega) (by omega)
      have h3 : v l[q - 1]! ≠ v l[q]! := fun h => hc ⟨by omega, (hv _ (mem _ (by omega)) _ (mem _ (by omega)) h).symm⟩
      grind
end Go.Proofs.Ytapkemilafogjaa
