/- The reference's fractions on small values: compared as core's Rat compares. -/
import Derived.Test.YtohpjbokhcifbaaRef1
namespace Go.Proofs.Ytohpjbokhcifbaa
open Go.Ab Go.Pure

theorem c_rCompare (a b : Rat) {n d n' d' : Nat} (ha : Bd n d a) (hb : Bd n' d' b) (h1 : n ≤ 60) (h2 : d ≤ 60) (h3 : n' ≤ 60) (h4 : d' ≤ 60) :
    cw f_ref01_Compare [aR a, aR b] [] = some (r_ref01_Compare.enc (cmpZ (a.num * b.den) (b.num * a.den))) := by
  have ha1 := Nat.le_trans ha.1 (p60 h1)
  have ha2 := Nat.le_trans ha.2 (p60 h2)
  have hb1 := Nat.le_trans hb.1 (p60 h3)
  have hb2 := Nat.le_trans hb.2 (p60 h4)
  have pa := a.den_pos
  have pb := b.den_pos
  have m1 : a.num.natAbs * b.den ≤ 1152921504606846976 * 1152921504606846976 := Nat.mul_le_mul ha1 hb2
  have m2 : b.num.natAbs * a.den ≤ 1152921504606846976 * 1152921504606846976 := Nat.mul_le_mul hb1 ha2
  obtain ⟨r, c, hp, hs, hc⟩ := c_rTotal (decide (a.num < 0)) (decide (0 < b.num)) (a.num.natAbs * b.den) (b.num.natAbs * a.den) (by omega)
  refine e_ref01_Compare _ _ ?_
  rw [callD_of (c_rValid a ha (by omega) (by omega)), brn_nt, callD_of (c_rValid b hb (by omega) (by omega)), brn_nt, oN, oN, oD, oD, callD_of (c_Size a.num (by omega) (by omega)), callD_of (c_Size (b.den : Int) (by omega) (by omega)),
    Int.natAbs_natCast, callD_of (c_rProduct _ _ (by omega) (by omega)), callD_of (c_Size b.num (by omega) (by omega)), callD_of (c_Size (a.den : Int) (by omega) (by omega)), Int.natAbs_natCast, callD_of (c_rProduct _ _ (by omega) (by omega)), callD_of hp]
  have e2 : sgn (decide (0 < b.num)) (b.num.natAbs * a.den) = -(b.num * (a.den : Int)) := by
    rw [sgn_mul, ← Int.neg_mul]
    congr 1
    by_cases q : 0 < b.num
    · rw [decide_eq_true q]; simp only [sgn, if_true]; omega
    · rw [decide_eq_false q]; simp only [sgn, Bool.false_eq_true, if_false]; omega
  rw [e2, sgn_mul, ← sgn_of] at hs
  generalize a.num * (b.den : Int) = A at *
  generalize b.num * (a.den : Int) = B at *
  by_cases hc0 : c = 0
  · subst hc0
    rw [brn_t (by rfl), cmpZ_eq (by cases r <;> simp [sgn] at hs <;> omega)]
  · rw [brn_f (by
      show ((((c / 18446744073709551616 : Nat) : Int) == 0) && ((((c % 18446744073709551616 : Nat) : Int) == 0) && true)) = false
      by_cases hq : c / 18446744073709551616 = 0
      · have : ¬ (((c % 18446744073709551616 : Nat) : Int) = 0) := by omega
        rw [beq_false_of_ne this]; simp
      · have : ¬ (((c / 18446744073709551616 : Nat) : Int) = 0) := by omega
        rw [beq_false_of_ne this]; rfl)]
    cases r with
    | true => rw [brn_T, cmpZ_lt (by simp [sgn] at hs; omega)]
    | false => rw [brn_F, cmpZ_gt (by simp [sgn] at hs; omega)]

theorem cmpZ_neg {a b : Int} : decide (cmpZ a b < 0) = decide (a < b) := by
  unfold cmpZ
  split
  · rename_i h; rw [decide_eq_true h]; rfl
  · rename_i h; rw [decide_eq_false h]; split <;> rfl

theorem c_rLess (a b : Rat) {n d n' d' : Nat} (ha : Bd n d a) (hb : Bd n' d' b) (h1 : n ≤ 60) (h2 : d ≤ 60) (h3 : n' ≤ 60) (h4 : d' ≤ 60) :
    cw f_ref01_Less [aR a, aR b] [] = some (r_ref01_Less.enc (decide (a < b))) := by
  refine e_ref01_Less _ _ ?_
  rw [callD_of (c_rCompare a b ha hb h1 h2 h3 h4), cmpZ_neg]
  have : decide (a.num * (b.den : Int) < b.num * a.den) = decide (a < b) := by
    rw [decide_eq_decide, Rat.lt_iff]
  rw [this]
end Go.Proofs.Ytohpjbokhcifbaa
