/- Small fractions that the dice make. -/
import Derived.Test.YtiienbfdcgipnaaRatio2
import Derived.Test.YtiienbfdcgipnaaDice0
namespace Go.Proofs.Ytiienbfdcgipnaa
open Go.Ab Go.Pure
set_option linter.unusedVariables false

/-- one step of shortening -/
def rs (k : Int) (p : Int × Int) : Int × Int := if p.1.tmod k = 0 ∧ p.2.tmod k = 0 then (p.1.tdiv k, p.2.tdiv k) else p

def rsAll (n m : Int) : Int × Int := let q := rs 2 (rs 3 (rs 4 (rs 5 (n, m)))); if q.1 = 0 then (q.1, 1) else q

theorem rsAll_ok : ∀ (n : Fin 21) (m : Fin 5), 0 < (rsAll ((n.val : Int) - 10) (1 + m.val)).2 ∧ (rsAll ((n.val : Int) - 10) (1 + m.val)).2 ≤ 8 ∧ (rsAll ((n.val : Int) - 10) (1 + m.val)).1.natAbs ≤ 16 ∧ Nat.gcd (rsAll ((n.val : Int) - 10) (1 + m.val)).1.natAbs (rsAll ((n.val : Int) - 10) (1 + m.val)).2.toNat = 1 := by decide

theorem rs_bd {k : Int} (hk : 2 ≤ k) {p : Int × Int} (h1 : -100 ≤ p.1 ∧ p.1 ≤ 100) (h2 : -100 ≤ p.2 ∧ p.2 ≤ 100) : (-100 ≤ (rs k p).1 ∧ (rs k p).1 ≤ 100) ∧ (-100 ≤ (rs k p).2 ∧ (rs k p).2 ≤ 100) := by
  unfold rs
  split
  · have a := Int.natAbs_tdiv_le_natAbs p.1 k
    have b := Int.natAbs_tdiv_le_natAbs p.2 k
    constructor <;> constructor <;> (dsimp only; omega)
  · exact ⟨h1, h2⟩

theorem k_DRatio (r1 : Int × GmarkDice) (p : Int × Int) (k : Int) (hk : 2 ≤ k) (hk' : k ≤ 5) (h1 : -100 ≤ p.1 ∧ p.1 ≤ 100) (h2 : -100 ≤ p.2 ∧ p.2 ≤ 100) {y : AV × Mem}
    (h : k_mark_Dice_Ratio_1 r1 (rs k p).1 (rs k p).2 (k - 1) = some y) : k_mark_Dice_Ratio_1 r1 p.1 p.2 k = some y := by
  refine t_mark_Dice_Ratio_1 _ _ _ _ ?_
  have a := Int.natAbs_tdiv_le_natAbs p.1 k
  have b := Int.natAbs_tdiv_le_natAbs p.2 k
  rw [brn_dec, if_pos (by omega), chk_pos (by omega), chk_pos (by omega), chk_pos (by omega), chk_pos (by omega), w64_id (n := k - 1) (by omega) (by omega), w64_id (n := p.1.tdiv k) (by omega) (by omega), w64_id (n := p.2.tdiv k) (by omega) (by omega)]
  unfold rs at h
  by_cases q1 : p.1.tmod k = 0
  · rw [brn_t (by rw [q1]; rfl)]
    by_cases q2 : p.2.tmod k = 0
    · rw [brn_t (by rw [q2]; rfl)]; rw [if_pos ⟨q1, q2⟩] at h; exact h
    · rw [brn_f (beq_false_of_ne q2)]; rw [if_neg (fun x => q2 x.2)] at h; exact h
  · rw [brn_f (beq_false_of_ne q1)]; rw [if_neg (fun x => q1 x.1)] at h; exact h

theorem c_DRatio (d : GmarkDice) (hd : DOk d) :
    ∃ (r : Rat) (d' : GmarkDice), cw f_mark_Dice_Ratio [.loc 1000 2 0 0] (mD d) = some (r_mark_Dice_Ratio.enc (ofR r, d')) ∧ Bd 4 3 r ∧ DOk d' := by
  obtain ⟨n, d1, h1, n0, n1, hd1⟩ := c_Next d 21 hd (by omega)
  obtain ⟨m, d2, h2, m0, m1, hd2⟩ := c_Next d1 5 hd1 (by omega)
  have key := rsAll_ok ⟨n.toNat, by omega⟩ ⟨m.toNat, by omega⟩
  have en : ((n.toNat : Nat) : Int) = n := by omega
  have em : ((m.toNat : Nat) : Int) = m := by omega
  simp only [en, em] at key
  obtain ⟨k1, k2, k3, k4⟩ := key
  have q5 := rs_bd (k := 5) (p := (n - 10, 1 + m)) (by omega) (by dsimp only; omega) (by dsimp only; omega)
  have q4 := rs_bd (k := 4) (by omega) q5.1 q5.2
  have q3 := rs_bd (k := 3) (by omega) q4.1 q4.2
  have q2 := rs_bd (k := 2) (by omega) q3.1 q3.2
  obtain ⟨r, hr, hb⟩ : ∃ r : Rat, ofR r = ⟨(rsAll (n - 10) (1 + m)).1, (rsAll (n - 10) (1 + m)).2⟩ ∧ Bd 4 3 r := by
    refine ⟨⟨(rsAll (n - 10) (1 + m)).1, (rsAll (n - 10) (1 + m)).2.toNat, by omega, k4⟩, ?_, ⟨by show _ ≤ 16; exact k3, by show _ ≤ 8; exact Int.toNat_le.2 k2⟩⟩
    have : (((rsAll (n - 10) (1 + m)).2.toNat : Nat) : Int) = (rsAll (n - 10) (1 + m)).2 := by omega
    unfold ofR
    dsimp only
    rw [this]
  refine ⟨r, d2, e_mark_Dice_Ratio d ?_, hb, hd2⟩
  rw [callD_of h1, callD_of h2, w64_id (by show _ ≤ n - 10; omega) (by show n - 10 < _; omega), w64_id (by show _ ≤ 1 + m; omega) (by show 1 + m < _; omega)]
  refine k_DRatio _ (n - 10, 1 + m) 5 (by omega) (by omega) (by dsimp only; omega) (by dsimp only; omega) ?_
  refine k_DRatio _ _ 4 (by omega) (by omega) q5.1 q5.2 ?_
  refine k_DRatio _ _ 3 (by omega) (by omega) q4.1 q4.2 ?_
  refine k_DRatio _ _ 2 (by omega) (by omega) q3.1 q3.2 ?_
  refine t_mark_Dice_Ratio_1 _ _ _ _ ?_
  rw [brn_dec, if_neg (by omega), hr]
  have hall : rsAll (n - 10) (1 + m) = if (rs 2 (rs 3 (rs 4 (rs 5 (n - 10, 1 + m))))).1 = 0 then ((rs 2 (rs 3 (rs 4 (rs 5 (n - 10, 1 + m))))).1, 1) else rs 2 (rs 3 (rs 4 (rs 5 (n - 10, 1 + m)))) := rfl
  rw [hall]
  generalize rs 2 (rs 3 (rs 4 (rs 5 (n - 10, 1 + m)))) = q
  by_cases h0 : q.1 = 0
  · rw [brn_t (by rw [h0]; rfl), if_pos h0]
  · rw [brn_f (beq_false_of_ne h0), if_neg h0]

end Go.Proofs.Ytiienbfdcgipnaa
