/- Fractions: core's Rat, with sizes in bits; no program in sight. -/
namespace Go.Pure

/-- the steps of the sum, as the program takes them -/
theorem add_steps (a b : Rat) (g : Nat) (hg : g = a.den.gcd b.den) (s : Int) (hs : s = a.num * ((b.den / g : Nat) : Int) + b.num * ((a.den / g : Nat) : Int)) (c : Nat) (hc : c = s.natAbs.gcd g) :
    (a + b).num = s / (c : Int) ∧ (a + b).den = (a.den / g) * (b.den / c) := by
  have hcg : c ∣ g := hc ▸ Nat.gcd_dvd_right _ _
  have hgb : g ∣ b.den := hg ▸ Nat.gcd_dvd_right _ _
  show (Rat.add a b).num = _ ∧ (Rat.add a b).den = _
  delta Rat.add
  dsimp only
  split
  · rename_i h1
    have hg1 : g = 1 := by rw [hg]; exact h1
    have hc1 : c = 1 := by rw [hg1] at hcg; exact Nat.dvd_one.1 hcg
    subst hc1
    rw [hs, hg1]
    simp
  · simp only [Rat.maybeNormalize_eq, Int.divExact_eq_ediv, ← hg, ← hs, ← hc]
    exact ⟨trivial, Nat.mul_div_assoc _ (Nat.dvd_trans hcg hgb)⟩

theorem mul_steps (a b : Rat) : (a * b).num = a.num.tdiv (a.num.natAbs.gcd b.den : Nat) * b.num.tdiv (b.num.natAbs.gcd a.den : Nat) ∧
    (a * b).den = (a.den / b.num.natAbs.gcd a.den) * (b.den / a.num.natAbs.gcd b.den) := by
  show (Rat.mul a b).num = _ ∧ (Rat.mul a b).den = _
  delta Rat.mul
  simp only [Int.divExact_eq_tdiv, Nat.divExact_eq_div]
  trivial

/-- sizes in bits -/
def Bd (n d : Nat) (r : Rat) : Prop := r.num.natAbs ≤ 2 ^ n ∧ r.den ≤ 2 ^ d

theorem Bd.mono {n d n' d' : Nat} {r : Rat} (h : Bd n d r) (h1 : n ≤ n') (h2 : d ≤ d') : Bd n' d' r :=
  ⟨Nat.le_trans h.1 (Nat.pow_le_pow_right (by omega) h1), Nat.le_trans h.2 (Nat.pow_le_pow_right (by omega) h2)⟩

theorem pow_mul_le {x y n m N : Nat} (hx : x ≤ 2 ^ n) (hy : y ≤ 2 ^ m) (h : n + m ≤ N) : x * y ≤ 2 ^ N :=
  Nat.le_trans (Nat.mul_le_mul hx hy) (by rw [← Nat.pow_add]; exact Nat.pow_le_pow_right (by omega) h)

theorem natAbs_ediv_le (s : Int) (c : Nat) : (s / (c : Int)).natAbs ≤ s.natAbs := by
  by_cases h : c = 0
  · subst h; simp
  · have := Int.natAbs_ediv_le_natAbs s c
    exact this

/-- the sum before it is shortened -/
theorem sum_le (a b : Rat) {n d n' d' N : Nat} (ha : Bd n d a) (hb : Bd n' d' b) (h1 : n + d' + 1 ≤ N) (h2 : n' + d + 1 ≤ N) (g : Nat) :
    a.num.natAbs * (b.den / g) ≤ 2 ^ (N - 1) ∧ b.num.natAbs * (a.den / g) ≤ 2 ^ (N - 1) ∧ (a.num * ((b.den / g : Nat) : Int) + b.num * ((a.den / g : Nat) : Int)).natAbs ≤ 2 ^ N := by
  have e1 : a.num.natAbs * (b.den / g) ≤ 2 ^ (N - 1) := pow_mul_le ha.1 (Nat.le_trans (Nat.div_le_self _ _) hb.2) (by omega)
  have e2 : b.num.natAbs * (a.den / g) ≤ 2 ^ (N - 1) := pow_mul_le hb.1 (Nat.le_trans (Nat.div_le_self _ _) ha.2) (by omega)
  refine ⟨e1, e2, ?_⟩
  have e3 := Int.natAbs_add_le (a.num * ((b.den / g : Nat) : Int)) (b.num * ((a.den / g : Nat) : Int))
  rw [Int.natAbs_mul, Int.natAbs_mul, Int.natAbs_natCast, Int.natAbs_natCast] at e3
  have e4 : 2 ^ N = 2 ^ (N - 1) + 2 ^ (N - 1) := by
    have : N = (N - 1) + 1 := by omega
    conv => lhs; rw [this, Nat.pow_succ]
    omega
  omega

theorem Bd.add {a b : Rat} {n d n' d' N D : Nat} (ha : Bd n d a) (hb : Bd n' d' b) (h1 : n + d' + 1 ≤ N) (h2 : n' + d + 1 ≤ N) (h3 : d + d' ≤ D) : Bd N D (a + b) := by
  obtain ⟨e1, e2⟩ := add_steps a b _ rfl _ rfl _ rfl
  refine ⟨?_, ?_⟩
  · rw [e1]
    exact Nat.le_trans (natAbs_ediv_le _ _) (sum_le a b ha hb h1 h2 _).2.2
  · rw [e2]
    exact pow_mul_le (Nat.le_trans (Nat.div_le_self _ _) ha.2) (Nat.le_trans (Nat.div_le_self _ _) hb.2) h3

theorem Bd.neg {a : Rat} {n d : Nat} (h : Bd n d a) : Bd n d (-a) := ⟨by show (-a.num).natAbs ≤ _; rw [Int.natAbs_neg]; exact h.1, h.2⟩

theorem Bd.sub {a b : Rat} {n d n' d' N D : Nat} (ha : Bd n d a) (hb : Bd n' d' b) (h1 : n + d' + 1 ≤ N) (h2 : n' + d + 1 ≤ N) (h3 : d + d' ≤ D) : Bd N D (a - b) := by
  rw [Rat.sub_eq_add_neg]; exact ha.add hb.neg h1 h2 h3

theorem Bd.mul {a b : Rat} {n d n' d' N D : Nat} (ha : Bd n d a) (hb : Bd n' d' b) (h1 : n + n' ≤ N) (h3 : d + d' ≤ D) : Bd N D (a * b) := by
  obtain ⟨e1, e2⟩ := mul_steps a b
  refine ⟨?_, ?_⟩
  · rw [e1, Int.natAbs_mul, Int.natAbs_tdiv, Int.natAbs_tdiv]
    exact pow_mul_le (Nat.le_trans (Nat.div_le_self _ _) ha.1) (Nat.le_trans (Nat.div_le_self _ _) hb.1) h1
  · rw [e2]
    exact pow_mul_le (Nat.le_trans (Nat.div_le_self _ _) ha.2) (Nat.le_trans (Nat.div_le_self _ _) hb.2) h3

theorem Bd.inv {a : Rat} {n d : Nat} (h : Bd n d a) : Bd d n a⁻¹ := by
  refine ⟨?_, ?_⟩
  · rw [Rat.num_inv, Int.natAbs_mul, Int.natAbs_natCast]
    have h1 : a.num.sign.natAbs ≤ 1 := by
      rw [Int.natAbs_sign]
      split <;> omega
    exact Nat.le_trans (Nat.mul_le_mul h1 h.2) (by omega)
  · rw [Rat.den_inv]
    split
    · exact Nat.one_le_two_pow
    · exact h.1
end Go.Pure
