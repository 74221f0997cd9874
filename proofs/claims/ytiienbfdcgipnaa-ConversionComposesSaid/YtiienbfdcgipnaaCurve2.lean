/- Drawn curves: their steps are small. -/
import Derived.Test.YtiienbfdcgipnaaCurve
namespace Go.Proofs.Ytiienbfdcgipnaa
open Go.Ab Go.Pure
set_option linter.unusedVariables false

def Stp (m : List (Int × Int)) : Prop := ∀ i p q, m[i]? = some p → m[i + 1]? = some q → q.1 - p.1 ≤ 3 ∧ q.2 - p.2 ≤ 4

theorem Stp.snoc {l : List (Int × Int)} {x y a b : Int} (h : Stp l) (hl : l.getLast? = some (x, y)) (ha : a ≤ 2) (hb : b ≤ 3) : Stp (l ++ [(x + 1 + a, y + 1 + b)]) := by
  intro i p q hp hq
  rw [List.getElem?_append] at hp hq
  split at hq
  · rename_i h1
    rw [if_pos (by omega)] at hp
    exact h i p q hp hq
  · rename_i h1
    have hi : i + 1 = l.length := by
      have h0 : i + 1 - l.length < 1 := by simpa using (List.getElem?_eq_some_iff.1 hq).1
      omega
    rw [if_pos (by omega)] at hp
    rw [show i + 1 - l.length = 0 by omega] at hq
    simp at hq
    rw [List.getLast?_eq_getElem?, ← hi, Nat.add_sub_cancel, hp] at hl
    injection hl with hl
    subst hl
    subst hq
    dsimp only
    omega

theorem k_Curve2 : ∀ (k : Nat) (l : List (Int × Int)) (d : GmarkDice) (x y : Int), DOk d → k ≤ 4 → 1 ≤ l.length → l.length + k ≤ 5 → IAsc l → (∀ p ∈ l, -4 ≤ p.1 ∧ p.1 ≤ x ∧ -4 ≤ p.2 ∧ p.2 ≤ y) → -4 ≤ x → -4 ≤ y → x + 3 * k ≤ 16 → y + 4 * k ≤ 20 → l.getLast? = some (x, y) → Stp l →
    ∃ (m : List (Int × Int)) (d' : GmarkDice), k_mark_Dice_Curve_1 (encL l) d x y (k : Int) = some (r_mark_Dice_Curve.enc (⟨(m.map ofI).map ofP⟩, d')) ∧ DOk d' ∧ m.length = l.length + k ∧ IAsc m ∧ (∀ p ∈ m, -4 ≤ p.1 ∧ p.1 ≤ 16 ∧ -4 ≤ p.2 ∧ p.2 ≤ 20) ∧ Stp m
  | 0, l, d, x, y, hd, hk, hl, hlk, ha, hp, hx, hy, hx', hy', hz, hst => by
    refine ⟨l, d, t_mark_Dice_Curve_1 _ _ _ _ _ ?_, hd, by omega, ha, fun p hp' => by have := hp p hp'; omega, hst⟩
    rw [brn_dec, if_neg (by omega), chk_pos (by omega), List.take_length]
  | k + 1, l, d, x, y, hd, hk, hl, hlk, ha, hp, hx, hy, hx', hy', hz, hst => by
    obtain ⟨a, d1, h1, a0, a1, hd1⟩ := c_Next d 3 hd (by omega)
    obtain ⟨b, d2, h2, b0, b1, hd2⟩ := c_Next d1 4 hd1 (by omega)
    have hasc : IAsc (l ++ [(x + 1 + a, y + 1 + b)]) := by
      unfold IAsc
      rw [List.pairwise_append]
      refine ⟨ha, List.pairwise_singleton _ _, fun p hp' q hq => ?_⟩
      rw [List.mem_singleton.1 hq]
      have := hp p hp'
      dsimp only
      omega
    obtain ⟨m, d', h3, h4, h5, h6, h7, h8⟩ := k_Curve2 k (l ++ [(x + 1 + a, y + 1 + b)]) d2 (x + 1 + a) (y + 1 + b) hd2 (by omega) (by simp) (by simp; omega) hasc (by
      intro p hp'
      rcases List.mem_append.1 hp' with hp' | hp'
      · have := hp p hp'; omega
      · rw [List.mem_singleton.1 hp']; dsimp only; omega) (by omega) (by omega) (by omega) (by omega) (by simp) (hst.snoc hz (by omega) (by omega))
    refine ⟨m, d', t_mark_Dice_Curve_1 _ _ _ _ _ ?_, h4, by rw [h5]; simp; omega, h6, h7, h8⟩
    have e : w64 (((k + 1 : Nat) : Int) - 1) = (k : Int) := by rw [w64_id (by omega) (by omega)]; omega
    rw [brn_dec, if_pos (by omega), callD_of h1, callD_of h2, chk_pos rfl, chk_pos (by rw [List.length_map, List.length_map, List.length_map]; omega), e]
    show k_mark_Dice_Curve_1 (encL l ++ [dGPoint.enc ⟨⟨w64 (w64 (x + 1) + a), 1⟩, ⟨w64 (w64 (y + 1) + b), 1⟩⟩]) d2 (w64 (w64 (x + 1) + a)) (w64 (w64 (y + 1) + b)) k = _
    rw [w64_id (n := x + 1) (by omega) (by omega), w64_id (n := y + 1) (by omega) (by omega), w64_id (n := x + 1 + a) (by omega) (by omega), w64_id (n := y + 1 + b) (by omega) (by omega), ← h3]
    congr 1
    simp only [encL, List.map_append, List.map_cons, List.map_nil]
    rfl

theorem c_Curve2 (d : GmarkDice) (hd : DOk d) :
    ∃ (m : List (Int × Int)) (d' : GmarkDice), cw f_mark_Dice_Curve [.loc 1000 2 0 0] (mD d) = some (r_mark_Dice_Curve.enc (⟨(m.map ofI).map ofP⟩, d')) ∧ DOk d' ∧ 2 ≤ m.length ∧ m.length ≤ 5 ∧ IAsc m ∧ (∀ p ∈ m, -4 ≤ p.1 ∧ p.1 ≤ 16 ∧ -4 ≤ p.2 ∧ p.2 ≤ 20) ∧ Stp m := by
  obtain ⟨a, d1, h1, a0, a1, hd1⟩ := c_Next d 9 hd (by omega)
  obtain ⟨b, d2, h2, b0, b1, hd2⟩ := c_Next d1 9 hd1 (by omega)
  obtain ⟨k, d3, h3, k0, k1, hd3⟩ := c_Next d2 4 hd2 (by omega)
  obtain ⟨m, d', q1, q2, q3, q4, q5, q6⟩ := k_Curve2 (1 + k).toNat [(a - 4, b - 4)] d3 (a - 4) (b - 4) hd3 (by omega) (by simp) (by simp; omega) (List.pairwise_singleton _ _) (by
    intro p hp
    rw [List.mem_singleton.1 hp]; dsimp only; omega) (by omega) (by omega) (by omega) (by omega) rfl (fun i p q hp hq => by simp at hq)
  simp only [List.length_singleton] at q3
  refine ⟨m, d', e_mark_Dice_Curve d ?_, q2, by omega, by omega, q4, q5, q6⟩
  have ek : w64 (1 + k) = (((1 + k).toNat : Nat) : Int) := by rw [w64_id (by omega) (by omega)]; omega
  rw [callD_of h1, callD_of h2, callD_of h3]
  show k_mark_Dice_Curve_1 [dGPoint.enc ⟨⟨w64 (a - 4), 1⟩, ⟨w64 (b - 4), 1⟩⟩] d3 (w64 (a - 4)) (w64 (b - 4)) (w64 (1 + k)) = _
  rw [ek, w64_id (n := a - 4) (by omega) (by omega), w64_id (n := b - 4) (by omega) (by omega), ← q1]
  rfl
end Go.Proofs.Ytiienbfdcgipnaa
