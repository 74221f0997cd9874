/- Small fractions and curves that the dice make. -/
import Derived.Test.YtiienbfdcgipnaaRatio2
import Derived.Test.YtiienbfdcgipnaaPureC
import Derived.Test.YtiienbfdcgipnaaDice0
namespace Go.Proofs.Ytiienbfdcgipnaa
open Go.Ab Go.Pure
set_option linter.unusedVariables false

/-- a point as the program holds it -/
def ofP (p : Pt) : GPoint := ⟨ofR p.1, ofR p.2⟩

def ofI (p : Int × Int) : Pt := ((p.1 : Rat), (p.2 : Rat))

theorem ofR_int (x : Int) : ofR (x : Rat) = ⟨x, 1⟩ := rfl

def IAsc (l : List (Int × Int)) : Prop := l.Pairwise fun p q => p.1 < q.1 ∧ p.2 < q.2

theorem asc_of {l : List (Int × Int)} (h : IAsc l) : Asc (l.map ofI) := by
  unfold Asc
  rw [List.pairwise_map, List.pairwise_iff_getElem]
  intro i j hi hj hij
  have hpq := List.pairwise_iff_getElem.1 h i j hi hj hij
  exact ⟨Rat.intCast_lt_intCast.2 hpq.1, Rat.intCast_lt_intCast.2 hpq.2⟩

theorem bd_int {x : Int} {n : Nat} (h : x.natAbs ≤ 2 ^ n) : Bd n 0 (x : Rat) := ⟨by rw [Rat.num_intCast]; exact h, by rw [Rat.den_intCast]; exact Nat.le_refl 1⟩

noncomputable abbrev encL (l : List (Int × Int)) : List (List AV) := List.map dGPoint.enc ((l.map ofI).map ofP)

theorem k_Curve : ∀ (k : Nat) (l : List (Int × Int)) (d : GmarkDice) (x y : Int), DOk d → k ≤ 4 → 1 ≤ l.length → l.length + k ≤ 5 → IAsc l → (∀ p ∈ l, -4 ≤ p.1 ∧ p.1 ≤ x ∧ -4 ≤ p.2 ∧ p.2 ≤ y) → -4 ≤ x → -4 ≤ y → x + 3 * k ≤ 16 → y + 4 * k ≤ 20 →
    ∃ (m : List (Int × Int)) (d' : GmarkDice), k_mark_Dice_Curve_1 (encL l) d x y (k : Int) = some (r_mark_Dice_Curve.enc (⟨(m.map ofI).map ofP⟩, d')) ∧ DOk d' ∧ m.length = l.length + k ∧ IAsc m ∧ ∀ p ∈ m, -4 ≤ p.1 ∧ p.1 ≤ 16 ∧ -4 ≤ p.2 ∧ p.2 ≤ 20
  | 0, l, d, x, y, hd, hk, hl, hlk, ha, hp, hx, hy, hx', hy' => by
    refine ⟨l, d, t_mark_Dice_Curve_1 _ _ _ _ _ ?_, hd, by omega, ha, fun p hp' => by have := hp p hp'; omega⟩
    rw [brn_dec, if_neg (by omega), chk_pos (by omega), List.take_length]
  | k + 1, l, d, x, y, hd, hk, hl, hlk, ha, hp, hx, hy, hx', hy' => by
    obtain ⟨a, d1, h1, a0, a1, hd1⟩ := c_Next d 3 hd (by omega)
    obtain ⟨b, d2, h2, b0, b1, hd2⟩ := c_Next d1 4 hd1 (by omega)
    have hasc : IAsc (l ++ [(x + 1 + a, y + 1 + b)]) := by
      unfold IAsc
      rw [List.pairwise_append]
      refine ⟨ha, List.pairwise_singleton _ _, fun p hp' q hq => ?_⟩
      rw [List.mem_singleton.1 hq]
      have := hp p hp'
      dsimp only
      omega
    obtain ⟨m, d', h3, h4, h5, h6, h7⟩ := k_Curve k (l ++ [(x + 1 + a, y + 1 + b)]) d2 (x + 1 + a) (y + 1 + b) hd2 (by omega) (by simp) (by simp; omega) hasc (by
      intro p hp'
      rcases List.mem_append.1 hp' with hp' | hp'
      · have := hp p hp'; omega
      · rw [List.mem_singleton.1 hp']; dsimp only; omega) (by omega) (by omega) (by omega) (by omega)
    refine ⟨m, d', t_mark_Dice_Curve_1 _ _ _ _ _ ?_, h4, by rw [h5]; simp; omega, h6, h7⟩
    have e : w64 (((k + 1 : Nat) : Int) - 1) = (k : Int) := by rw [w64_id (by omega) (by omega)]; omega
    rw [brn_dec, if_pos (by omega), callD_of h1, callD_of h2, chk_pos rfl, chk_pos (by rw [List.length_map, List.length_map, List.length_map]; omega), e]
    show k_mark_Dice_Curve_1 (encL l ++ [dGPoint.enc ⟨⟨w64 (w64 (x + 1) + a), 1⟩, ⟨w64 (w64 (y + 1) + b), 1⟩⟩]) d2 (w64 (w64 (x + 1) + a)) (w64 (w64 (y + 1) + b)) k = _
    rw [w64_id (n := x + 1) (by omega) (by omega), w64_id (n := y + 1) (by omega) (by omega), w64_id (n := x + 1 + a) (by omega) (by omega), w64_id (n := y + 1 + b) (by omega) (by omega), ← h3]
    congr 1
    simp only [encL, List.map_append, List.map_cons, List.map_nil]
    rfl

theorem c_Curve (d : GmarkDice) (hd : DOk d) :
    ∃ (m : List (Int × Int)) (d' : GmarkDice), cw f_mark_Dice_Curve [.loc 1000 2 0 0] (mD d) = some (r_mark_Dice_Curve.enc (⟨(m.map ofI).map ofP⟩, d')) ∧ DOk d' ∧ 2 ≤ m.length ∧ m.length ≤ 5 ∧ IAsc m ∧ ∀ p ∈ m, -4 ≤ p.1 ∧ p.1 ≤ 16 ∧ -4 ≤ p.2 ∧ p.2 ≤ 20 := by
  obtain ⟨a, d1, h1, a0, a1, hd1⟩ := c_Next d 9 hd (by omega)
  obtain ⟨b, d2, h2, b0, b1, hd2⟩ := c_Next d1 9 hd1 (by omega)
  obtain ⟨k, d3, h3, k0, k1, hd3⟩ := c_Next d2 4 hd2 (by omega)
  obtain ⟨m, d', q1, q2, q3, q4, q5⟩ := k_Curve (1 + k).toNat [(a - 4, b - 4)] d3 (a - 4) (b - 4) hd3 (by omega) (by simp) (by simp; omega) (List.pairwise_singleton _ _) (by
    intro p hp
    rw [List.mem_singleton.1 hp]; dsimp only; omega) (by omega) (by omega) (by omega) (by omega)
  simp only [List.length_singleton] at q3
  refine ⟨m, d', e_mark_Dice_Curve d ?_, q2, by omega, by omega, q4, q5⟩
  have ek : w64 (1 + k) = (((1 + k).toNat : Nat) : Int) := by rw [w64_id (by omega) (by omega)]; omega
  rw [callD_of h1, callD_of h2, callD_of h3]
  show k_mark_Dice_Curve_1 [dGPoint.enc ⟨⟨w64 (a - 4), 1⟩, ⟨w64 (b - 4), 1⟩⟩] d3 (w64 (a - 4)) (w64 (b - 4)) (w64 (1 + k)) = _
  rw [ek, w64_id (n := a - 4) (by omega) (by omega), w64_id (n := b - 4) (by omega) (by omega), ← q1]
  rfl
end Go.Proofs.Ytiienbfdcgipnaa
