/- New fractions and sums, of the reference. -/
import Derived.Test.YthhedegaeeadhaaRatio3
import Derived.Test.YthhedegaeeadhaaRef1
namespace Go.Proofs.Ythhedegaeeadhaa
open Go.Ab Go.Pure
set_option linter.unusedVariables false

theorem c_rReduce (s : Bool) (n D : Nat) (h0 : 0 < D) (hN : n ≤ 1152921504606846976) (hD : D ≤ 1152921504606846976) :
    cw f_ref01_Reduce [B s, .agg (dGref01Wide.enc (WR n)), .agg (dGref01Wide.enc (WR D))] [] = some (r_ref01_Reduce.enc (ofR (mkRat (sgn s n) D), 0)) := by
  generalize hg : n.gcd D = g
  have hg0 : 0 < g := hg ▸ Nat.gcd_pos_of_pos_right _ h0
  have hgN : g ∣ n := hg ▸ Nat.gcd_dvd_left _ _
  have l1 : n / g ≤ n := Nat.div_le_self _ _
  have l2 : D / g ≤ D := Nat.div_le_self _ _
  have l3 : g ≤ D := hg ▸ Nat.gcd_le_right _ h0
  have hne : D ≠ 0 := by omega
  have hres : ofR (mkRat (sgn s n) D) = ⟨sgn s (n / g), ((D / g : Nat) : Int)⟩ := by
    unfold ofR
    rw [Rat.num_mkRat, Rat.den_mkRat, if_neg hne, if_neg hne, sgn_natAbs, Nat.gcd_comm, hg, sgn_div _ _ _ hgN]
  have hd := e_ref01_Divisor _ _ (k_rDivisor D n (by omega) (by omega))
  rw [hg] at hd
  refine e_ref01_Reduce _ _ _ ?_
  rw [callD_of hd, callD_of (c_rDivideS n g (by omega) (by omega) hg0), callD_of (c_rDivideS D g (by omega) (by omega) hg0), WR_small (n := n / g) (by omega), WR_small (n := D / g) (by omega), hres]
  clear hres
  generalize n / g = q1 at *
  generalize D / g = q2 at *
  have e1 : w64 (q1 : Int) = (q1 : Int) := w64_id (by omega) (by omega)
  have e2 : w64 (q2 : Int) = (q2 : Int) := w64_id (by omega) (by omega)
  have e3 : w64 (0 - (q1 : Int)) = -(q1 : Int) := by rw [w64_id (by omega) (by omega)]; omega
  rw [brn_dec, if_neg (by show ¬ (0 : Int) < ((0 : Nat) : Int); omega), brn_dec, if_neg (by show ¬ (0 : Int) < ((0 : Nat) : Int); omega), brn_dec, if_neg (by show ¬ (1152921504606846976 : Int) < (q1 : Int); omega), brn_dec, if_neg (by show ¬ (1152921504606846976 : Int) < (q2 : Int); omega)]
  dsimp only
  rw [e1, e2, e3]
  cases s with
  | true => rw [brn_T]; rfl
  | false => rw [brn_F]; rfl

theorem c_rNew (N : Int) (D : Nat) (h0 : 0 < D) (hN : N.natAbs ≤ 1152921504606846976) (hD : D ≤ 1152921504606846976) : cw f_ref01_New [I N, I (D : Int)] [] = some (r_ref01_New.enc (ofR (mkRat N D), 0)) := by
  have hb : ((D : Int) == 0) = false := beq_false_of_ne (by omega)
  have hs : (!decide (N < 0) == decide ((D : Int) < 0)) = decide (N < 0) := by
    rw [decide_eq_false (show ¬ (D : Int) < 0 by omega)]
    cases decide (N < 0) <;> rfl
  have hr := c_rReduce (decide (N < 0)) N.natAbs D h0 hN hD
  rw [WR_small (by omega), WR_small (by omega), ← sgn_of] at hr
  refine e_ref01_New _ _ ?_
  rw [brn_f hb, callD_of (c_Size N (by omega) (by omega)), callD_of (c_Size (D : Int) (by omega) (by omega)), Int.natAbs_natCast, hs]
  show callD r_ref01_Reduce (cw f_ref01_Reduce [B (decide (N < 0)), .agg (dGref01Wide.enc ⟨((0 : Nat) : Int), (N.natAbs : Int)⟩), .agg (dGref01Wide.enc ⟨((0 : Nat) : Int), (D : Int)⟩)] []) _ = _
  rw [callD_of hr]

theorem add_mk (a b : Rat) : mkRat (a.num * (b.den : Int) + b.num * (a.den : Int)) (a.den * b.den) = a + b := by
  rw [Rat.mkRat_eq_div]
  have ha : a = (a.num : Rat) / (a.den : Rat) := by rw [← Rat.mkRat_eq_div, Rat.mkRat_self]
  have hb : b = (b.num : Rat) / (b.den : Rat) := by rw [← Rat.mkRat_eq_div, Rat.mkRat_self]
  have da : (a.den : Rat) ≠ 0 := by
    intro hc
    have : ((a.den : Int) : Rat) = ((0 : Int) : Rat) := hc
    have := Rat.intCast_inj.1 this
    have := a.den_pos; omega
  have db : (b.den : Rat) ≠ 0 := by
    intro hc
    have : ((b.den : Int) : Rat) = ((0 : Int) : Rat) := hc
    have := Rat.intCast_inj.1 this
    have := b.den_pos; omega
  have e1 : ((a.num * (b.den : Int) + b.num * (a.den : Int) : Int) : Rat) = (a.num : Rat) * (b.den : Rat) + (b.num : Rat) * (a.den : Rat) := by
    rw [Rat.intCast_add, Rat.intCast_mul, Rat.intCast_mul]; rfl
  have e2 : ((a.den * b.den : Nat) : Rat) = (a.den : Rat) * (b.den : Rat) := Rat.natCast_mul _ _
  rw [e1, e2]
  generalize hA : (a.num : Rat) = A at *
  generalize hB : (b.num : Rat) = B at *
  generalize hC : (a.den : Rat) = C at *
  generalize hD : (b.den : Rat) = D at *
  rw [ha, hb]
  grind

theorem c_rAdd (a b : Rat) {n d n' d' : Nat} (ha : Bd n d a) (hb : Bd n' d' b) (h1 : n + d' + 1 ≤ 60) (h2 : n' + d + 1 ≤ 60) (h3 : d + d' ≤ 60) :
    cw f_ref01_Add [aR a, aR b] [] = some (r_ref01_Add.enc (ofR (a + b), 0)) := by
  have ha1 := Nat.le_trans ha.1 (p60 (show n ≤ 60 by omega))
  have ha2 := Nat.le_trans ha.2 (p60 (show d ≤ 60 by omega))
  have hb1 := Nat.le_trans hb.1 (p60 (show n' ≤ 60 by omega))
  have hb2 := Nat.le_trans hb.2 (p60 (show d' ≤ 60 by omega))
  have pa := a.den_pos
  have pb := b.den_pos
  have q1 : a.num.natAbs * b.den ≤ 2 ^ 59 := pow_mul_le ha.1 hb.2 (by omega)
  have q2 : b.num.natAbs * a.den ≤ 2 ^ 59 := pow_mul_le hb.1 ha.2 (by omega)
  have q3 : a.den * b.den ≤ 2 ^ 60 := pow_mul_le ha.2 hb.2 (by omega)
  have k59 : (2 : Nat) ^ 59 = 576460752303423488 := by decide
  have k60 : (2 : Nat) ^ 60 = 1152921504606846976 := by decide
  obtain ⟨r, c, hp, hs, hc⟩ := c_rTotal (decide (a.num < 0)) (decide (b.num < 0)) (a.num.natAbs * b.den) (b.num.natAbs * a.den) (by omega)
  rw [sgn_mul, sgn_mul, ← sgn_of, ← sgn_of] at hs
  have hr := c_rReduce r c (a.den * b.den) (Nat.mul_pos pa pb) (by omega) (by omega)
  rw [hs, add_mk] at hr
  refine e_ref01_Add _ _ ?_
  rw [callD_of (c_rValid a ha (by omega) (by omega)), brn_nt, callD_of (c_rValid b hb (by omega) (by omega)), brn_nt, oN, oN, oD, oD, callD_of (c_Size a.num (by omega) (by omega)), callD_of (c_Size (b.den : Int) (by omega) (by omega)),
    Int.natAbs_natCast, callD_of (c_rProduct _ _ (by omega) (by omega)), callD_of (c_Size b.num (by omega) (by omega)), callD_of (c_Size (a.den : Int) (by omega) (by omega)), Int.natAbs_natCast, callD_of (c_rProduct _ _ (by omega) (by omega)), callD_of hp,
    callD_of (c_Size (a.den : Int) (by omega) (by omega)), callD_of (c_Size (b.den : Int) (by omega) (by omega)), Int.natAbs_natCast, Int.natAbs_natCast, callD_of (c_rProduct _ _ (by omega) (by omega)), callD_of hr]

theorem g_rAdd {a b : Rat} (h : AddOk a b) : cw f_ref01_Add [aR a, aR b] [] = some (r_ref01_Add.enc (ofR (a + b), 0)) := by
  obtain ⟨n, d, n', d', ha, hb, h1, h2, h3⟩ := h
  exact c_rAdd a b ha hb h1 h2 h3

theorem g_rSub {a b : Rat} (h : AddOk a b) : cw f_ref01_Sub [aR a, aR b] [] = some (r_ref01_Sub.enc (ofR (a - b), 0)) := by
  obtain ⟨n, d, n', d', ha, hb, h1, h2, h3⟩ := h
  have hb1 := Nat.le_trans hb.1 (p60 (show n' ≤ 60 by omega))
  refine e_ref01_Sub _ _ ?_
  have e : (⟨w64 (0 - (ofR b).Num), (ofR b).Den⟩ : GRatio) = ofR (-b) := by
    have : w64 (0 - (ofR b).Num) = -b.num := by rw [oN, w64_id (by omega) (by omega)]; omega
    rw [this]; rfl
  rw [callD_of (c_rValid a ha (by omega) (by omega)), brn_nt, callD_of (c_rValid b hb (by omega) (by omega)), brn_nt, e, callD_of (c_rAdd a (-b) ha hb.neg h1 h2 h3), Rat.sub_eq_add_neg]
end Go.Proofs.Ythhedegaeeadhaa
