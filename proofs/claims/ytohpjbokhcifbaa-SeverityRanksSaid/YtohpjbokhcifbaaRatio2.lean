/- The ratio layer on small fractions: each function answers as core's Rat does. -/
import Derived.Test.YtohpjbokhcifbaaRatio1
import Derived.Test.YtohpjbokhcifbaaPureR
namespace Go.Proofs.Ytohpjbokhcifbaa
open Go.Ab Go.Pure

theorem brn_nt {β : Type} (x y : Option β) : brn (!true) x y = y := rfl
theorem brn_nf {β : Type} (x y : Option β) : brn (!false) x y = x := rfl
theorem brn_T {β : Type} (x y : Option β) : brn true x y = x := rfl
theorem brn_F {β : Type} (x y : Option β) : brn false x y = y := rfl

/-- a fraction as the program holds it -/
def ofR (r : Rat) : GRatio := ⟨r.num, (r.den : Int)⟩

theorem ofR_inj {a b : Rat} (h : ofR a = ofR b) : a = b := by
  have h1 : a.num = b.num := congrArg GRatio.Num h
  have h2 : (a.den : Int) = b.den := congrArg GRatio.Den h
  exact Rat.ext h1 (by omega)

theorem oN (r : Rat) : (ofR r).Num = r.num := rfl
theorem oD (r : Rat) : (ofR r).Den = (r.den : Int) := rfl
theorem oE (r : Rat) : (⟨(ofR r).Num, (ofR r).Den⟩ : GRatio) = ofR r := rfl

/-- equality of fractions as the program tests it -/
theorem eqR (a b : Rat) : ((ofR a).Num == (ofR b).Num && ((ofR a).Den == (ofR b).Den && true)) = decide (a = b) := by
  by_cases h : a = b
  · subst h; simp
  · rw [decide_eq_false h]
    by_cases h1 : a.num = b.num
    · have h2 : ¬ ((a.den : Int) = b.den) := fun h2 => h (Rat.ext h1 (by omega))
      rw [oN, oN, oD, oD, beq_false_of_ne h2]
      simp
    · rw [oN, oN, show (a.num == b.num) = false by simpa using h1]; rfl

noncomputable abbrev aR (r : Rat) : AV := .agg (dGRatio.enc (ofR r))

theorem p60 {n : Nat} (h : n ≤ 60) : (2 : Nat) ^ n ≤ 1152921504606846976 := Nat.le_trans (Nat.pow_le_pow_right (by omega) h) (by decide)
theorem p63 {n : Nat} (h : n ≤ 63) : (2 : Nat) ^ n ≤ 9223372036854775808 := Nat.le_trans (Nat.pow_le_pow_right (by omega) h) (by decide)

theorem c_Valid (r : Rat) {n d : Nat} (h : Bd n d r) (hn : n ≤ 60) (hd : d ≤ 60) : cw f_ratio_Valid [aR r] [] = some (r_ratio_Valid.enc true) := by
  have h1 := Nat.le_trans h.1 (p60 hn)
  have h2 := Nat.le_trans h.2 (p60 hd)
  have h3 := r.den_pos
  have eN : (ofR r).Num = r.num := rfl
  have eD : (ofR r).Den = (r.den : Int) := rfl
  refine e_ratio_Valid _ ?_
  rw [eN, eD, brn_dec, if_neg (by omega), brn_dec, if_neg (by omega), brn_dec, if_neg (by omega), brn_dec, if_neg (by omega), callD_of (c_magnitude r.num (by omega) (by omega)), wuN (by omega), callD_of (c_gcd _ _)]
  have : Nat.gcd r.num.natAbs r.den = 1 := r.reduced
  rw [this]
  rfl

theorem tdivN (a b : Nat) : (a : Int).tdiv (b : Int) = ((a / b : Nat) : Int) := rfl

theorem sgn_natAbs (s : Bool) (n : Nat) : (sgn s n).natAbs = n := by cases s <;> simp [sgn]

theorem sgn_of (n : Int) : n = sgn (decide (n < 0)) n.natAbs := by
  by_cases h : n < 0
  · rw [decide_eq_true h]; simp only [sgn, if_true]; omega
  · rw [decide_eq_false h]; simp only [sgn, Bool.false_eq_true, if_false]; omega

theorem sgn_mul (s : Bool) (n m : Nat) : sgn s (n * m) = sgn s n * m := by cases s <;> simp [sgn, Int.neg_mul]

theorem sgn_div (s : Bool) (n c : Nat) (h : c ∣ n) : sgn s (n / c) = sgn s n / (c : Int) := by
  cases s
  · simp [sgn]
  · simp only [sgn, if_true]
    rw [Int.neg_ediv_of_dvd (Int.natCast_dvd_natCast.2 h)]
    rfl

theorem tdiv_sgn (s : Bool) (n c : Nat) : (sgn s n).tdiv (c : Int) = sgn s (n / c) := by
  cases s
  · rfl
  · simp only [sgn, if_true]
    rw [Int.neg_tdiv]; rfl

theorem c_Compare (a b : Rat) {n d n' d' : Nat} (ha : Bd n d a) (hb : Bd n' d' b) (h1 : n ≤ 60) (h2 : d ≤ 60) (h3 : n' ≤ 60) (h4 : d' ≤ 60) :
    cw f_ratio_Compare [aR a, aR b] [] = some (r_ratio_Compare.enc (cmpZ (a.num * b.den) (b.num * a.den))) := by
  have ha1 := Nat.le_trans ha.1 (p60 h1)
  have ha2 := Nat.le_trans ha.2 (p60 h2)
  have hb1 := Nat.le_trans hb.1 (p60 h3)
  have hb2 := Nat.le_trans hb.2 (p60 h4)
  have pa := a.den_pos
  have pb := b.den_pos
  refine e_ratio_Compare _ _ ?_
  rw [callD_of (c_Valid a ha (by omega) (by omega)), brn_nt, callD_of (c_Valid b hb (by omega) (by omega)), brn_nt, oN, oN, oD, oD, wuN (by omega), wuN (by omega),
    callD_of (c_signedProduct a.num b.den (by omega) (by omega) (by omega)), callD_of (c_signedProduct b.num a.den (by omega) (by omega) (by omega))]
  have e1 : a.num * (b.den : Int) = sgn (decide (a.num < 0)) (a.num.natAbs * b.den) := by rw [sgn_mul, ← sgn_of]
  have e2 : b.num * (a.den : Int) = sgn (decide (b.num < 0)) (b.num.natAbs * a.den) := by rw [sgn_mul, ← sgn_of]
  have n1 : a.num < 0 → 0 < a.num.natAbs * b.den := fun h => Nat.mul_pos (by omega) pb
  have n2 : b.num < 0 → 0 < b.num.natAbs * a.den := fun h => Nat.mul_pos (by omega) pa
  rw [e1, e2]
  generalize a.num.natAbs * b.den = A at *
  generalize b.num.natAbs * a.den = B at *
  by_cases q1 : a.num < 0
  · have n1 := n1 q1
    rw [decide_eq_true q1, brn_T]
    by_cases q2 : b.num < 0
    · have n2 := n2 q2
      rw [decide_eq_true q2, brn_T, callD_of (c_wcompare B A)]
      have : cmpZ (B : Int) A = cmpZ (sgn true A) (sgn true B) := by
        simp only [cmpZ, sgn, if_true]
        split <;> split <;> first | rfl | omega | (split <;> first | rfl | omega)
      rw [this]
    · rw [decide_eq_false q2, brn_F, brn_T]
      have : cmpZ (sgn true A) (sgn false B) = -1 := cmpZ_lt (by simp only [sgn, if_true, Bool.false_eq_true, if_false]; omega)
      rw [this]
  · rw [decide_eq_false q1, brn_F, brn_F]
    by_cases q2 : b.num < 0
    · have n2 := n2 q2
      rw [decide_eq_true q2, brn_T]
      have : cmpZ (sgn false A) (sgn true B) = 1 := cmpZ_gt (by simp only [sgn, if_true, Bool.false_eq_true, if_false]; omega)
      rw [this]
    · rw [decide_eq_false q2, brn_F, callD_of (c_wcompare A B)]
      rfl

theorem cmpZ_neg_one {a b : Int} : (cmpZ a b == -1) = decide (a < b) := by
  unfold cmpZ
  split
  · rename_i h; rw [decide_eq_true h]; rfl
  · rename_i h; rw [decide_eq_false h]; split <;> rfl

theorem cmpZ_le {a b : Int} : cmpZ a b ≤ 0 ↔ a ≤ b := by
  unfold cmpZ
  split
  · omega
  · split <;> omega

theorem cmpR_le (a b : Rat) : cmpZ (a.num * b.den) (b.num * a.den) ≤ 0 ↔ a ≤ b := by
  rw [cmpZ_le, Rat.le_iff]

end Go.Proofs.Ytohpjbokhcifbaa
