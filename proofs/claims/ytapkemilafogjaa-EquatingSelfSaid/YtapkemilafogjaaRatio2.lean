/- The ratio layer on small fractions: each function answers as core's Rat does. -/
import Derived.Test.YtapkemilafogjaaRatio1
import Derived.Test.YtapkemilafogjaaPureJ
namespace Go.Proofs.Ytapkemilafogjaa
open Go.Ab Go.Pure

theorem brn_nt {β : Type} (x y : Option β) : brn (!true) x y = y := rfl
theorem brn_nf {β : Type} (x y : Option β) : brn (!false) x y = x := rfl
theorem brn_T {β : Type} (x y : Option β) : brn true x y = x := rfl
theorem brn_F {β : Type} (x y : Option β) : brn false x y = y := rfl

/-- a fraction as the program holds it -/
def ofR (r : Rat) : GRatio := ⟨r.num, (r.den : Int)⟩

theorem ofR_inj {a b : Rat} (h : ofR a = ofR b) : a = b := by
  have h1 : a.num = b.num := congrArg GRatio.Num h
  have h2 : (a.den : Int) = b.den := congrArg GRatio.Den h
  exact Rat.ext h1 (by omega)

theorem oN (r : Rat) : (ofR r).Num = r.num := rfl
theorem oD (r : Rat) : (ofR r).Den = (r.den : Int) := rfl
theorem oE (r : Rat) : (⟨(ofR r).Num, (ofR r).Den⟩ : GRatio) = ofR r := rfl

/-- equality of fractions as the program tests it -/
theorem eqR (a b : Rat) : ((ofR a).Num == (ofR b).Num && ((ofR a).Den == (ofR b).Den && true)) = decide (a = b) := by
  by_cases h : a = b
  · subst h; simp
  · rw [decide_eq_false h]
    by_cases h1 : a.num = b.num
    · have h2 : ¬ ((a.den : Int) = b.den) := fun h2 => h (Rat.ext h1 (by omega))
      rw [oN, oN, oD, oD, beq_false_of_ne h2]
      simp
    · rw [oN, oN, show (a.num == b.num) = false by simpa using h1]; rfl

noncomputable abbrev aR (r : Rat) : AV := .agg (dGRatio.enc (ofR r))

theorem p60 {n : Nat} (h : n ≤ 60) : (2 : Nat) ^ n ≤ 1152921504606846976 := Nat.le_trans (Nat.pow_le_pow_right (by omega) h) (by decide)
theorem p63 {n : Nat} (h : n ≤ 63) : (2 : Nat) ^ n ≤ 9223372036854775808 := Nat.le_trans (Nat.pow_le_pow_right (by omega) h) (by decide)

theorem c_Valid (r : Rat) {n d : Nat} (h : Bd n d r) (hn : n ≤ 60) (hd : d ≤ 60) : cw f_ratio_Valid [aR r] [] = some (r_ratio_Valid.enc true) := by
  have h1 := Nat.le_trans h.1 (p60 hn)
  have h2 := Nat.le_trans h.2 (p60 hd)
  have h3 := r.den_pos
  have eN : (ofR r).Num = r.num := rfl
  have eD : (ofR r).Den = (r.den : Int) := rfl
  refine e_ratio_Valid _ ?_
  rw [eN, eD, brn_dec, if_neg (by omega), brn_dec, if_neg (by omega), brn_dec, if_neg (by omega), brn_dec, if_neg (by omega), callD_of (c_magnitude r.num (by omega) (by omega)), wuN (by omega), callD_of (c_gcd _ _)]
  have : Nat.gcd r.num.natAbs r.den = 1 := r.reduced
  rw [this]
  rfl

theorem tdivN (a b : Nat) : (a : Int).tdiv (b : Int) = ((a / b : Nat) : Int) := rfl

theorem sgn_natAbs (s : Bool) (n : Nat) : (sgn s n).natAbs = n := by cases s <;> simp [sgn]

theorem sgn_of (n : Int) : n = sgn (decide (n < 0)) n.natAbs := by
  by_cases h : n < 0
  · rw [decide_eq_true h]; simp only [sgn, if_true]; omega
  · rw [decide_eq_false h]; simp only [sgn, Bool.false_eq_true, if_false]; omega

theorem sgn_mul (s : Bool) (n m : Nat) : sgn s (n * m) = sgn s n * m := by cases s <;> simp [sgn, Int.neg_mul]

theorem sgn_div (s : Bool) (n c : Nat) (h : c ∣ n) : sgn s (n / c) = sgn s n / (c : Int) := by
  cases s
  · simp [sgn]
  · simp only [sgn, if_true]
    rw [Int.neg_ediv_of_dvd (Int.natCast_dvd_natCast.2 h)]
    rfl

theorem c_Add (a b : Rat) {n d n' d' : Nat} (ha : Bd n d a) (hb : Bd n' d' b) (h1 : n + d' + 1 ≤ 60) (h2 : n' + d + 1 ≤ 60) (h3 : d + d' ≤ 60) :
    cw f_ratio_Add [aR a, aR b] [] = some (r_ratio_Add.enc (ofR (a + b), 0)) := by
  have ha1 := Nat.le_trans ha.1 (p60 (show n ≤ 60 by omega))
  have ha2 := Nat.le_trans ha.2 (p60 (show d ≤ 60 by omega))
  have hb1 := Nat.le_trans hb.1 (p60 (show n' ≤ 60 by omega))
  have hb2 := Nat.le_trans hb.2 (p60 (show d' ≤ 60 by omega))
  have pa := a.den_pos
  have pb := b.den_pos
  generalize hg : a.den.gcd b.den = g
  have hg0 : 0 < g := hg ▸ Nat.gcd_pos_of_pos_left _ pa
  have hga : g ≤ a.den := hg ▸ Nat.gcd_le_left _ pa
  obtain ⟨q1, q2, q3⟩ := sum_le a b ha hb h1 h2 g
  have k1 := p60 (show 60 ≤ 60 by omega)
  have k2 : (2 : Nat) ^ (60 - 1) ≤ 1152921504606846976 := p60 (by omega)
  have l1 : b.den / g ≤ b.den := Nat.div_le_self _ _
  have l2 : a.den / g ≤ a.den := Nat.div_le_self _ _
  obtain ⟨r, c, hp, hs⟩ := c_splus (decide (a.num < 0)) (decide (b.num < 0)) (a.num.natAbs * (b.den / g)) (b.num.natAbs * (a.den / g)) (by omega)
  rw [sgn_mul, sgn_mul, ← sgn_of, ← sgn_of] at hs
  have hc : c ≤ 1152921504606846976 := by
    have : c = (sgn r c).natAbs := (sgn_natAbs _ _).symm
    rw [this, hs]; exact Nat.le_trans q3 k1
  generalize hm : c.gcd g = m
  have hm0 : 0 < m := hm ▸ Nat.gcd_pos_of_pos_right _ hg0
  have hmc : m ∣ c := hm ▸ Nat.gcd_dvd_left _ _
  have hmm : (c % g).gcd g = m := by rw [← hm, Nat.gcd_comm c g, ← Nat.gcd_rec]
  have l3 : b.den / m ≤ b.den := Nat.div_le_self _ _
  have l4 : c / m ≤ c := Nat.div_le_self _ _
  have l5 : a.den / g * (b.den / m) ≤ 1152921504606846976 := Nat.le_trans (pow_mul_le (Nat.le_trans l2 ha.2) (Nat.le_trans l3 hb.2) h3) k1
  obtain ⟨s1, s2⟩ := add_steps a b g hg.symm _ rfl m (by rw [← hs, sgn_natAbs, hm])
  have hres : (⟨sgn r (c / m), ((a.den / g * (b.den / m) : Nat) : Int)⟩ : GRatio) = ofR (a + b) := by
    unfold ofR
    rw [s1, s2, ← hs, sgn_div r c m hmc]
  refine e_ratio_Add _ _ ?_
  rw [callD_of (c_Valid a ha (by omega) (by omega)), brn_nt, callD_of (c_Valid b hb (by omega) (by omega)), brn_nt, oD, oD, oN, oN, wuN (by omega), wuN (by omega), callD_of (c_gcd _ _), hg,
    chk_pos (by omega), tdivN, tdivN, wuN (by omega), wuN (by omega), callD_of (c_signedProduct a.num (b.den / g) (by omega) (by omega) (by omega)), chk_pos (by omega),
    callD_of (c_signedProduct b.num (a.den / g) (by omega) (by omega) (by omega)), callD_of hp]
  show callD r_ratio_wide_mod (cw f_ratio_wide_mod [.agg (dGratioWide.enc (W c)), U g] []) _ = _
  rw [callD_of (c_modS c g (by omega) hg0), callD_of (c_gcd _ _), hmm]
  show callD r_ratio_wide_over (cw f_ratio_wide_over [.agg (dGratioWide.enc (W c)), U m] []) _ = _
  rw [callD_of (c_overS c m (by omega) hm0), chk_pos (by omega), chk_pos (by omega), tdivN, wuN (by omega), callD_of (c_product (a.den / g) (b.den / m) (by omega) (by omega)), callD_of (c_fitted r (c / m) _ (by omega) l5), hres]

theorem c_Sub (a b : Rat) {n d n' d' : Nat} (ha : Bd n d a) (hb : Bd n' d' b) (h1 : n + d' + 1 ≤ 60) (h2 : n' + d + 1 ≤ 60) (h3 : d + d' ≤ 60) :
    cw f_ratio_Sub [aR a, aR b] [] = some (r_ratio_Sub.enc (ofR (a - b), 0)) := by
  have hb1 := Nat.le_trans hb.1 (p60 (show n' ≤ 60 by omega))
  refine e_ratio_Sub _ _ ?_
  have e : (⟨w64 (0 - (ofR b).Num), (ofR b).Den⟩ : GRatio) = ofR (-b) := by
    have : w64 (0 - (ofR b).Num) = -b.num := by rw [oN, w64_id (by omega) (by omega)]; omega
    rw [this]; rfl
  rw [callD_of (c_Valid a ha (by omega) (by omega)), brn_nt, callD_of (c_Valid b hb (by omega) (by omega)), brn_nt, e, callD_of (c_Add a (-b) ha hb.neg h1 h2 h3), Rat.sub_eq_add_neg]

theorem tdiv_sgn (s : Bool) (n c : Nat) : (sgn s n).tdiv (c : Int) = sgn s (n / c) := by
  cases s
  · rfl
  · simp only [sgn, if_true]
    rw [Int.neg_tdiv]; rfl

theorem c_Mul (a b : Rat) {n d n' d' : Nat} (ha : Bd n d a) (hb : Bd n' d' b) (h1 : n + n' ≤ 60) (h3 : d + d' ≤ 60) :
    cw f_ratio_Mul [aR a, aR b] [] = some (r_ratio_Mul.enc (ofR (a * b), 0)) := by
  have ha1 := Nat.le_trans ha.1 (p60 (show n ≤ 60 by omega))
  have ha2 := Nat.le_trans ha.2 (p60 (show d ≤ 60 by omega))
  have hb1 := Nat.le_trans hb.1 (p60 (show n' ≤ 60 by omega))
  have hb2 := Nat.le_trans hb.2 (p60 (show d' ≤ 60 by omega))
  have pa := a.den_pos
  have pb := b.den_pos
  obtain ⟨s1, s2⟩ := mul_steps a b
  generalize hl : a.num.natAbs.gcd b.den = l at *
  generalize hr : b.num.natAbs.gcd a.den = r at *
  have hl0 : 0 < l := hl ▸ Nat.gcd_pos_of_pos_right _ pb
  have hr0 : 0 < r := hr ▸ Nat.gcd_pos_of_pos_right _ pa
  have k1 := p60 (show 60 ≤ 60 by omega)
  have l1 : a.num.natAbs / l ≤ a.num.natAbs := Nat.div_le_self _ _
  have l2 : b.num.natAbs / r ≤ b.num.natAbs := Nat.div_le_self _ _
  have l3 : a.den / r ≤ a.den := Nat.div_le_self _ _
  have l4 : b.den / l ≤ b.den := Nat.div_le_self _ _
  have m1 : a.num.natAbs / l * (b.num.natAbs / r) ≤ 1152921504606846976 := Nat.le_trans (pow_mul_le (Nat.le_trans l1 ha.1) (Nat.le_trans l2 hb.1) h1) k1
  have m2 : a.den / r * (b.den / l) ≤ 1152921504606846976 := Nat.le_trans (pow_mul_le (Nat.le_trans l3 ha.2) (Nat.le_trans l4 hb.2) h3) k1
  have hres : (⟨sgn (!decide (a.num < 0) == decide (b.num < 0)) (a.num.natAbs / l * (b.num.natAbs / r)), ((a.den / r * (b.den / l) : Nat) : Int)⟩ : GRatio) = ofR (a * b) := by
    unfold ofR
    rw [s1, s2, sgn_of a.num, sgn_of b.num, tdiv_sgn, tdiv_sgn]
    rw [sgn_natAbs, sgn_natAbs, ← sgn_of a.num, ← sgn_of b.num]
    by_cases q1 : a.num < 0 <;> by_cases q2 : b.num < 0 <;> simp [q1, q2, sgn, Int.neg_mul, Int.mul_neg]
  refine e_ratio_Mul _ _ ?_
  rw [callD_of (c_Valid a ha (by omega) (by omega)), brn_nt, callD_of (c_Valid b hb (by omega) (by omega)), brn_nt, oD, oD, oN, oN, callD_of (c_magnitude a.num (by omega) (by omega)), callD_of (c_magnitude b.num (by omega) (by omega)),
    wuN (by omega), wuN (by omega), callD_of (c_gcd _ _), callD_of (c_gcd _ _), hl, hr, chk_pos (by omega), chk_pos (by omega), tdivN, tdivN, tdivN, tdivN, wuN (by omega), wuN (by omega), wuN (by omega), wuN (by omega),
    callD_of (c_product _ _ (by omega) (by omega)), chk_pos (by omega), chk_pos (by omega), callD_of (c_product _ _ (by omega) (by omega)), callD_of (c_fitted _ _ _ m1 m2), hres]

theorem c_Div (a b : Rat) {n d n' d' : Nat} (ha : Bd n d a) (hb : Bd n' d' b) (h0 : b ≠ 0) (h1 : n + d' ≤ 60) (h3 : d + n' ≤ 60) :
    cw f_ratio_Div [aR a, aR b] [] = some (r_ratio_Div.enc (ofR (a / b), 0)) := by
  have hb1 := Nat.le_trans hb.1 (p60 (show n' ≤ 60 by omega))
  have hb2 := Nat.le_trans hb.2 (p60 (show d' ≤ 60 by omega))
  have hn0 : b.num ≠ 0 := fun h => h0 (Rat.num_eq_zero.1 h)
  have hm := callD_of (c_Mul a b⁻¹ ha hb.inv (by omega) (by omega)) (fun (r2 : GRatio × Int) => some (AV.tup [.agg (dGRatio.enc r2.fst), I r2.snd], ([] : Mem)))
  have eq : a / b = a * b⁻¹ := Rat.div_def a b
  have iN := Rat.num_inv b
  have iD := Rat.den_inv b
  rw [if_neg hn0] at iD
  refine e_ratio_Div _ _ ?_
  rw [callD_of (c_Valid a ha (by omega) (by omega)), brn_nt, callD_of (c_Valid b hb (by omega) (by omega)), brn_nt, oN, oD, brn_f (by simpa using hn0), brn_dec]
  by_cases hs : b.num < 0
  · rw [if_pos hs]
    have e : (⟨w64 (0 - (b.den : Int)), w64 (0 - b.num)⟩ : GRatio) = ofR b⁻¹ := by
      unfold ofR
      rw [iN, iD, Int.sign_eq_neg_one_of_neg hs, w64_id (by omega) (by omega), w64_id (by omega) (by omega)]
      congr 1 <;> omega
    rw [e, hm, eq]
  · rw [if_neg hs]
    have e : (⟨(b.den : Int), b.num⟩ : GRatio) = ofR b⁻¹ := by
      unfold ofR
      rw [iN, iD, Int.sign_eq_one_of_pos (by omega)]
      congr 1 <;> omega
    rw [e, hm, eq]

theorem c_Compare (a b : Rat) {n d n' d' : Nat} (ha : Bd n d a) (hb : Bd n' d' b) (h1 : n ≤ 60) (h2 : d ≤ 60) (h3 : n' ≤ 60) (h4 : d' ≤ 60) :
    cw f_ratio_Compare [aR a, aR b] [] = some (r_ratio_Compare.enc (cmpZ (a.num * b.den) (b.num * a.den))) := by
  have ha1 := Nat.le_trans ha.1 (p60 h1)
  have ha2 := Nat.le_trans ha.2 (p60 h2)
  have hb1 := Nat.le_trans hb.1 (p60 h3)
  have hb2 := Nat.le_trans hb.2 (p60 h4)
  have pa := a.den_pos
  have pb := b.den_pos
  refine e_ratio_Compare _ _ ?_
  rw [callD_of (c_Valid a ha (by omega) (by omega)), brn_nt, callD_of (c_Valid b hb (by omega) (by omega)), brn_nt, oN, oN, oD, oD, wuN (by omega), wuN (by omega),
    callD_of (c_signedProduct a.num b.den (by omega) (by omega) (by omega)), callD_of (c_signedProduct b.num a.den (by omega) (by omega) (by omega))]
  have e1 : a.num * (b.den : Int) = sgn (decide (a.num < 0)) (a.num.natAbs * b.den) := by rw [sgn_mul, ← sgn_of]
  have e2 : b.num * (a.den : Int) = sgn (decide (b.num < 0)) (b.num.natAbs * a.den) := by rw [sgn_mul, ← sgn_of]
  have n1 : a.num < 0 → 0 < a.num.natAbs * b.den := fun h => Nat.mul_pos (by omega) pb
  have n2 : b.num < 0 → 0 < b.num.natAbs * a.den := fun h => Nat.mul_pos (by omega) pa
  rw [e1, e2]
  generalize a.num.natAbs * b.den = A at *
  generalize b.num.natAbs * a.den = B at *
  by_cases q1 : a.num < 0
  · have n1 := n1 q1
    rw [decide_eq_true q1, brn_T]
    by_cases q2 : b.num < 0
    · have n2 := n2 q2
      rw [decide_eq_true q2, brn_T, callD_of (c_wcompare B A)]
      have : cmpZ (B : Int) A = cmpZ (sgn true A) (sgn true B) := by
        simp only [cmpZ, sgn, if_true]
        split <;> split <;> first | rfl | omega | (split <;> first | rfl | omega)
      rw [this]
    · rw [decide_eq_false q2, brn_F, brn_T]
      have : cmpZ (sgn true A) (sgn false B) = -1 := cmpZ_lt (by simp only [sgn, if_true, Bool.false_eq_true, if_false]; omega)
      rw [this]
  · rw [decide_eq_false q1, brn_F, brn_F]
    by_cases q2 : b.num < 0
    · have n2 := n2 q2
      rw [decide_eq_true q2, brn_T]
      have : cmpZ (sgn false A) (sgn true B) = 1 := cmpZ_gt (by simp only [sgn, if_true, Bool.false_eq_true, if_false]; omega)
      rw [this]
    · rw [decide_eq_false q2, brn_F, callD_of (c_wcompare A B)]
      rfl

theorem cmpZ_neg_one {a b : Int} : (cmpZ a b == -1) = decide (a < b) := by
  unfold cmpZ
  split
  · rename_i h; rw [decide_eq_true h]; rfl
  · rename_i h; rw [decide_eq_false h]; split <;> rfl

theorem cmpZ_le {a b : Int} : cmpZ a b ≤ 0 ↔ a ≤ b := by
  unfold cmpZ
  split
  · omega
  · split <;> omega

theorem cmpR_le (a b : Rat) : cmpZ (a.num * b.den) (b.num * a.den) ≤ 0 ↔ a ≤ b := by
  rw [cmpZ_le, Rat.le_iff]

theorem c_Less (a b : Rat) {n d n' d' : Nat} (ha : Bd n d a) (hb : Bd n' d' b) (h1 : n ≤ 60) (h2 : d ≤ 60) (h3 : n' ≤ 60) (h4 : d' ≤ 60) :
    cw f_ratio_Less [aR a, aR b] [] = some (r_ratio_Less.enc (decide (a < b))) := by
  refine e_ratio_Less _ _ ?_
  rw [callD_of (c_Compare a b ha hb h1 h2 h3 h4), cmpZ_neg_one]
  have : decide (a.num * (b.den : Int) < b.num * a.den) = decide (a < b) := by
    rw [decide_eq_decide, Rat.lt_iff]
  rw [this]

end Go.Proofs.Ytapkemilafogjaa
