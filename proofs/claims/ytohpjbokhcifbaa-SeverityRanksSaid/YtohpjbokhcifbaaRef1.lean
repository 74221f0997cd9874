/- The reference's fractions on small values: valid, compared as core's Rat compares. -/
import Derived.Test.YtohpjbokhcifbaaRatio2
namespace Go.Proofs.Ytohpjbokhcifbaa
open Go.Ab Go.Pure

/-- a number of two words, as the reference holds it -/
def WR (n : Nat) : Gref01Wide := ⟨((n / 18446744073709551616 : Nat) : Int), ((n % 18446744073709551616 : Nat) : Int)⟩

theorem WR_small {n : Nat} (h : n < 18446744073709551616) : WR n = ⟨((0 : Nat) : Int), (n : Int)⟩ := by unfold WR; rw [Nat.div_eq_of_lt h, Nat.mod_eq_of_lt h]

theorem c_Size (n : Int) (h1 : -9223372036854775808 ≤ n) (h2 : n < 9223372036854775808) : cw f_ref01_Size [I n] [] = some (r_ref01_Size.enc (n.natAbs : Int)) := by
  refine e_ref01_Size _ ?_
  rw [brn_dec]
  by_cases h : n < 0
  · rw [if_pos h, w64_id (show _ ≤ n + 1 by omega) (by omega), w64_id (by omega) (by omega), wu64_id (show 0 ≤ 0 - (n + 1) by omega) (by omega), wu64_id (by omega) (by omega)]
    have : (0 - (n + 1) + 1 : Int) = n.natAbs := by omega
    rw [this]
  · rw [if_neg h, wu64_id (by omega) (by omega)]
    have : n = (n.natAbs : Int) := by omega
    rw [← this]

theorem c_rProduct (x y : Nat) (hx : x < 18446744073709551616) (hy : y < 18446744073709551616) :
    cw f_ref01_Product [U x, U y] [] = some (r_ref01_Product.enc (WR (x * y))) := by
  refine e_ref01_Product _ _ ?_
  rw [callD_of (c_Mul64 x y hx hy)]
  rfl

theorem c_rPlus (a b : Nat) (h : a + b < 340282366920938463463374607431768211456) :
    cw f_ref01_Plus [.agg (dGref01Wide.enc (WR a)), .agg (dGref01Wide.enc (WR b))] [] = some (r_ref01_Plus.enc (WR (a + b))) := by
  refine e_ref01_Plus _ _ ?_
  have e0 : (WR a).Lo.toNat = a % 18446744073709551616 := rfl
  have e1 : (WR b).Lo.toNat = b % 18446744073709551616 := rfl
  have e2 : (WR a).Hi.toNat = a / 18446744073709551616 := rfl
  have e3 : (WR b).Hi.toNat = b / 18446744073709551616 := rfl
  have p : (2 : Nat) ^ 64 = 18446744073709551616 := by decide
  have z0 : Int.toNat 0 = 0 := rfl
  have z1 : Int.toNat 1 = 1 := rfl
  rw [e0, e1, e2, e3, p, z0, z1]
  by_cases hc : (a % 18446744073709551616 + b % 18446744073709551616 + 0) / 18446744073709551616 = 0
  · rw [brn_t (by rw [hc]; rfl)]
    have h1 : (a / 18446744073709551616 + b / 18446744073709551616 + 0) % 18446744073709551616 = (a + b) / 18446744073709551616 := by omega
    have h2 : (a % 18446744073709551616 + b % 18446744073709551616 + 0) % 18446744073709551616 = (a + b) % 18446744073709551616 := by omega
    rw [h1, h2]
    rfl
  · have hc' : (a % 18446744073709551616 + b % 18446744073709551616 + 0) / 18446744073709551616 = 1 := by omega
    rw [hc', brn_f (by rfl), brn_t (by rfl)]
    have h1 : (a / 18446744073709551616 + b / 18446744073709551616 + 1) % 18446744073709551616 = (a + b) / 18446744073709551616 := by omega
    have h2 : (a % 18446744073709551616 + b % 18446744073709551616 + 0) % 18446744073709551616 = (a + b) % 18446744073709551616 := by omega
    rw [h1, h2]
    rfl

theorem c_rMinus (a b : Nat) (hb : b ≤ a) (h : a < 340282366920938463463374607431768211456) :
    cw f_ref01_Minus [.agg (dGref01Wide.enc (WR a)), .agg (dGref01Wide.enc (WR b))] [] = some (r_ref01_Minus.enc (WR (a - b))) := by
  refine e_ref01_Minus _ _ ?_
  have e0 : (WR a).Lo.toNat = a % 18446744073709551616 := rfl
  have e1 : (WR b).Lo.toNat = b % 18446744073709551616 := rfl
  have e2 : (WR a).Hi.toNat = a / 18446744073709551616 := rfl
  have e3 : (WR b).Hi.toNat = b / 18446744073709551616 := rfl
  have p : (2 : Nat) ^ 64 = 18446744073709551616 := by decide
  have z0 : Int.toNat 0 = 0 := rfl
  have z1 : Int.toNat 1 = 1 := rfl
  rw [e0, e1, e2, e3, p, z0, z1]
  by_cases hc : a % 18446744073709551616 < b % 18446744073709551616 + 0
  · rw [if_pos hc, brn_f (by rfl), brn_t (by rfl)]
    have h1 : (a / 18446744073709551616 + 18446744073709551616 - b / 18446744073709551616 - 1) % 18446744073709551616 = (a - b) / 18446744073709551616 := by omega
    have h2 : (a % 18446744073709551616 + 18446744073709551616 - b % 18446744073709551616 - 0) % 18446744073709551616 = (a - b) % 18446744073709551616 := by omega
    rw [h1, h2]
    rfl
  · rw [if_neg hc, brn_t (by rfl)]
    have h1 : (a / 18446744073709551616 + 18446744073709551616 - b / 18446744073709551616 - 0) % 18446744073709551616 = (a - b) / 18446744073709551616 := by omega
    have h2 : (a % 18446744073709551616 + 18446744073709551616 - b % 18446744073709551616 - 0) % 18446744073709551616 = (a - b) % 18446744073709551616 := by omega
    rw [h1, h2]
    rfl

theorem c_rOrder (a b : Nat) : cw f_ref01_Order [.agg (dGref01Wide.enc (WR a)), .agg (dGref01Wide.enc (WR b))] [] = some (r_ref01_Order.enc (cmpZ a b)) := by
  refine e_ref01_Order _ _ ?_
  have ha : (WR a).Hi = ((a / 18446744073709551616 : Nat) : Int) := rfl
  have hb : (WR b).Hi = ((b / 18446744073709551616 : Nat) : Int) := rfl
  have la : (WR a).Lo = ((a % 18446744073709551616 : Nat) : Int) := rfl
  have lb : (WR b).Lo = ((b % 18446744073709551616 : Nat) : Int) := rfl
  rw [ha, hb, la, lb, brn_dec]
  rcases Nat.lt_trichotomy (a / 18446744073709551616) (b / 18446744073709551616) with h | h | h
  · rw [if_pos (by omega), cmpZ_lt (by omega)]
  · rw [if_neg (by omega), brn_t (by rw [h]; exact beq_self_eq_true _), brn_dec]
    rcases Nat.lt_trichotomy a b with h' | h' | h'
    · rw [if_pos (by omega), cmpZ_lt (by omega)]
    · rw [if_neg (by omega), brn_t (by rw [h']; simp), cmpZ_eq (by omega)]
    · rw [if_neg (by omega), brn_f (by
        have : ¬ (((a % 18446744073709551616 : Nat) : Int) = ((b % 18446744073709551616 : Nat) : Int)) := by omega
        rw [beq_false_of_ne this]; simp), cmpZ_gt (by omega)]
  · have hne : ¬ (((a / 18446744073709551616 : Nat) : Int) = ((b / 18446744073709551616 : Nat) : Int)) := by omega
    rw [if_neg (by omega), brn_f (beq_false_of_ne hne), brn_f (by rw [beq_false_of_ne hne]; rfl), cmpZ_gt (by omega)]

theorem c_rTotal (p q : Bool) (a b : Nat) (h : a + b < 340282366920938463463374607431768211456) :
    ∃ (r : Bool) (c : Nat), cw f_ref01_total [B p, .agg (dGref01Wide.enc (WR a)), B q, .agg (dGref01Wide.enc (WR b))] [] = some (r_ref01_total.enc (r, WR c)) ∧ sgn r c = sgn p a + sgn q b ∧ c ≤ a + b := by
  by_cases hs : p = q
  · subst hs
    refine ⟨p, a + b, e_ref01_total _ _ _ _ ?_, ?_, by omega⟩
    · rw [brn_t (by simp), callD_of (c_rPlus a b h)]
    · cases p <;> simp [sgn] <;> omega
  · have hs' : (p == q) = false := by simpa using hs
    by_cases hc : b ≤ a
    · refine ⟨p, a - b, e_ref01_total _ _ _ _ ?_, ?_, by omega⟩
      · rw [brn_f hs', callD_of (c_rOrder a b), brn_dec, if_pos (cmpZ_nonneg (by omega)), callD_of (c_rMinus a b hc (by omega))]
      · cases p <;> cases q <;> simp [sgn] at hs ⊢ <;> omega
    · refine ⟨q, b - a, e_ref01_total _ _ _ _ ?_, ?_, by omega⟩
      · rw [brn_f hs', callD_of (c_rOrder a b), brn_dec, if_neg (by rw [cmpZ_lt (by omega)]; omega), callD_of (c_rMinus b a (by omega) (by omega))]
      · cases p <;> cases q <;> simp [sgn] at hs ⊢ <;> omega

theorem c_rDivideS (a b : Nat) (ha : a < 18446744073709551616) (hb : b < 18446744073709551616) (h0 : 0 < b) :
    cw f_ref01_Divide [.agg (dGref01Wide.enc (WR a)), .agg (dGref01Wide.enc (WR b))] [] = some (r_ref01_Divide.enc (WR (a / b), WR (a % b))) := by
  have h3 : a / b ≤ a := Nat.div_le_self a b
  have h4 : a % b < b := Nat.mod_lt _ h0
  have h1 : (a : Int).tdiv (b : Int) = ((a / b : Nat) : Int) := rfl
  have h2 : (a : Int).tmod (b : Int) = ((a % b : Nat) : Int) := rfl
  rw [WR_small ha, WR_small hb, WR_small (n := a / b) (by omega), WR_small (n := a % b) (by omega)]
  refine e_ref01_Divide _ _ ?_
  rw [brn_t (by rfl), brn_t (by rfl), chk_pos (by show (b : Int) ≠ 0; omega), chk_pos (by show (b : Int) ≠ 0; omega)]
  show some (AV.tup [.agg (dGref01Wide.enc ⟨0, wu64 ((a : Int).tdiv (b : Int))⟩), .agg (dGref01Wide.enc ⟨0, (a : Int).tmod (b : Int)⟩)], ([] : Mem)) = _
  rw [h1, h2, wuN (by omega)]
  rfl

theorem k_rDivisor : ∀ (b a : Nat), a < 18446744073709551616 → b < 18446744073709551616 → k_ref01_Divisor_1 (WR a) (WR b) = some (r_ref01_Divisor.enc (WR (Nat.gcd a b))) := by
  intro b
  induction b using Nat.strongRecOn with
  | _ b ih =>
    intro a ha hb
    refine t_ref01_Divisor_1 _ _ ?_
    by_cases h0 : b = 0
    · subst h0
      rw [brn_f (by rfl), Nat.gcd_zero_right]
    · have hne : ¬ ((b : Int) = 0) := by omega
      have hm := Nat.mod_lt a (show 0 < b by omega)
      rw [brn_t (by rw [WR_small hb]; show (!(((0 : Nat) : Int) == 0 && ((b : Int) == 0 && true))) = true; rw [beq_false_of_ne hne]; rfl), callD_of (c_rDivideS a b ha hb (by omega))]
      show k_ref01_Divisor_1 (WR b) (WR (a % b)) = _
      rw [ih (a % b) hm b hb (by omega), Nat.gcd_comm b (a % b), ← Nat.gcd_rec, Nat.gcd_comm]

theorem c_rValid (r : Rat) {n d : Nat} (h : Bd n d r) (hn : n ≤ 60) (hd : d ≤ 60) : cw f_ref01_Valid [aR r] [] = some (r_ref01_Valid.enc true) := by
  have h1 := Nat.le_trans h.1 (p60 hn)
  have h2 := Nat.le_trans h.2 (p60 hd)
  have h3 := r.den_pos
  refine e_ref01_Valid _ ?_
  rw [oN, oD, brn_dec, if_neg (by omega), brn_dec, if_neg (by omega), brn_dec, if_neg (by omega), brn_dec, if_neg (by omega), callD_of (c_Size r.num (by omega) (by omega)), callD_of (c_Size (r.den : Int) (by omega) (by omega)), Int.natAbs_natCast]
  have hD : cw f_ref01_Divisor [.agg (dGref01Wide.enc ⟨0, (r.num.natAbs : Int)⟩), .agg (dGref01Wide.enc ⟨0, (r.den : Int)⟩)] [] = some (r_ref01_Divisor.enc (WR 1)) := by
    have := k_rDivisor r.den r.num.natAbs (by omega) (by omega)
    rw [WR_small (by omega), WR_small (n := r.den) (by omega), show Nat.gcd r.num.natAbs r.den = 1 from r.reduced] at this
    exact e_ref01_Divisor _ _ this
  rw [callD_of hD]
  rfl

end Go.Proofs.Ytohpjbokhcifbaa
