/- Words: greatest divisors, products of two words, numbers of two words. -/
import Derived.Test.YtohpjbokhcifbaaAll
import Derived.Test.YtohpjbokhcifbaaAbTop
import Derived.Lib.Mul64
namespace Go.Proofs.Ytohpjbokhcifbaa
open Go.Ab

theorem brn_t {β : Type} {c : Bool} (h : c = true) (x y : Option β) : brn c x y = x := by subst h; rfl
theorem brn_f {β : Type} {c : Bool} (h : c = false) (x y : Option β) : brn c x y = y := by subst h; rfl

/-- a word -/
noncomputable abbrev U (n : Nat) : AV := .v (.int .u64 (n : Int))

theorem wuN {n : Nat} (h : n < 18446744073709551616) : wu64 (n : Int) = n := wu64_id (by omega) (by omega)

theorem k_gcd : ∀ (b a : Nat), k_ratio_gcd_1 (a : Int) (b : Int) = some (r_ratio_gcd.enc ((Nat.gcd a b : Nat) : Int)) := by
  intro b
  induction b using Nat.strongRecOn with
  | _ b ih =>
    intro a
    refine t_ratio_gcd_1 _ _ ?_
    by_cases hb : b = 0
    · subst hb
      rw [brn_f (by rfl), Nat.gcd_zero_right]
    · rw [brn_t (by simp; omega), chk_pos (by omega)]
      have : (a : Int).tmod (b : Int) = ((a % b : Nat) : Int) := rfl
      rw [this, ih (a % b) (Nat.mod_lt _ (by omega)) b, Nat.gcd_comm b (a % b), ← Nat.gcd_rec, Nat.gcd_comm]

theorem c_gcd (a b : Nat) : cw f_ratio_gcd [U a, U b] [] = some (r_ratio_gcd.enc ((Nat.gcd a b : Nat) : Int)) := e_ratio_gcd _ _ (k_gcd b a)

theorem c_magnitude (n : Int) (h1 : -9223372036854775808 ≤ n) (h2 : n < 9223372036854775808) : cw f_ratio_magnitude [I n] [] = some (r_ratio_magnitude.enc (n.natAbs : Int)) := by
  refine e_ratio_magnitude _ ?_
  rw [brn_dec]
  by_cases h : n < 0
  · rw [if_pos h]
    have : wu64 (0 - wu64 n) = (n.natAbs : Int) := by
      simp only [wu64, IntKind.wrap, IntKind.bits, IntKind.signed, show ((2 : Int) ^ 64) = 18446744073709551616 from rfl, Bool.false_and, Bool.false_eq_true, if_false]
      omega
    rw [this]
  · rw [if_neg h, wu64_id (by omega) (by omega), show n = (n.natAbs : Int) from by omega]
    simp

theorem c_Mul64 (x y : Nat) (hx : x < 18446744073709551616) (hy : y < 18446744073709551616) :
    cw f_bits_Mul64 [U x, U y] [] = some (r_bits_Mul64.enc (((x * y / 18446744073709551616 : Nat) : Int), ((x * y % 18446744073709551616 : Nat) : Int))) := by
  refine e_bits_Mul64 _ _ ?_
  have h32 : ((2 : Int) ^ Min.min (Int.toNat 32) 64) = ((4294967296 : Nat) : Int) := by decide
  have hdiv : ∀ n : Nat, (n : Int).fdiv ((4294967296 : Nat) : Int) = ((n / 4294967296 : Nat) : Int) := fun n => by
    rw [Int.fdiv_eq_ediv_of_nonneg _ (by omega)]; rfl
  have hmask : ∀ n : Nat, n < 18446744073709551616 → ((((n : Int) % Int.ofNat (2 ^ 64)).toNat &&& ((4294967295 : Int) % Int.ofNat (2 ^ 64)).toNat : Nat) : Int) = ((n % 4294967296 : Nat) : Int) := fun n hn => by
    have e1 : ((n : Int) % Int.ofNat (2 ^ 64)).toNat = n := by
      have : (Int.ofNat (2 ^ 64) : Int) = 18446744073709551616 := by decide
      rw [this]; omega
    have e2 : ((4294967295 : Int) % Int.ofNat (2 ^ 64)).toNat = 2 ^ 32 - 1 := by decide
    rw [e1, e2, Nat.and_two_pow_sub_one_eq_mod]
  obtain ⟨m1, m2, m3, m4⟩ := Go.Lib.mul64_hi x y hx hy
  have hlo : wu64 ((x : Int) * (y : Int)) = ((x * y % 18446744073709551616 : Nat) : Int) := by
    have e : (x : Int) * (y : Int) = ((x * y : Nat) : Int) := by simp
    rw [e]
    generalize x * y = m
    simp only [wu64, IntKind.wrap, IntKind.bits, IntKind.signed, show ((2 : Int) ^ 64) = 18446744073709551616 from rfl, Bool.false_and, Bool.false_eq_true, if_false]
    omega
  have hx0 : x % 4294967296 < 4294967296 := Nat.mod_lt _ (by omega)
  have hy0 : y % 4294967296 < 4294967296 := Nat.mod_lt _ (by omega)
  have p1 := Go.Lib.half_mul_le (a := x / 4294967296) (b := y % 4294967296) (by omega) (by omega)
  have p2 := Go.Lib.half_mul_le (a := x % 4294967296) (b := y / 4294967296) (by omega) (by omega)
  have p3 := Go.Lib.half_mul_le (a := x / 4294967296) (b := y / 4294967296) (by omega) (by omega)
  have hM : ∀ a b : Nat, ((a : Int) * (b : Int)) = ((a * b : Nat) : Int) := fun a b => by push_cast; rfl
  have hA : ∀ a b : Nat, ((a : Int) + (b : Int)) = ((a + b : Nat) : Int) := fun a b => by push_cast; rfl
  rw [chk_pos (by decide), chk_pos (by decide), chk_pos (by decide), chk_pos (by decide), chk_pos (by decide), hlo, h32]
  rw [hdiv x, hdiv y, hmask x hx, hmask y hy, wuN (n := x % 4294967296) (by omega), wuN (n := y % 4294967296) (by omega)]
  generalize hx1 : x / 4294967296 = x1 at *
  generalize hy1 : y / 4294967296 = y1 at *
  generalize x % 4294967296 = x0 at *
  generalize y % 4294967296 = y0 at *
  rw [hM x0 y0, wuN m1, hdiv, hM x1 y0, wuN (n := x1 * y0) (by omega), hA, wuN m2, hmask _ m2, hM x0 y1, wuN (n := x0 * y1) (by omega), wuN (n := _ % 4294967296) (by omega), hA, wuN m3, hdiv, hdiv, hM x1 y1, wuN (n := x1 * y1) (by omega), hA, wuN (by omega), hA, wuN (by omega), m4]

/-- a number of two words -/
def W (n : Nat) : GratioWide := ⟨((n / 18446744073709551616 : Nat) : Int), ((n % 18446744073709551616 : Nat) : Int)⟩

theorem c_product (x y : Nat) (hx : x < 18446744073709551616) (hy : y < 18446744073709551616) :
    cw f_ratio_product [U x, U y] [] = some (r_ratio_product.enc (W (x * y))) := by
  refine e_ratio_product _ _ ?_
  rw [callD_of (c_Mul64 x y hx hy)]
  rfl

/-- the sign of a comparison -/
def cmpZ (a b : Int) : Int := if a < b then -1 else if b < a then 1 else 0

theorem c_isNaN (a : Int) : cw f_cmp_isNaN_uint64 [.v (.int .u64 a)] [] = some (r_cmp_isNaN_uint64.enc false) := e_cmp_isNaN_uint64 a (by simp)

theorem c_cmp (a b : Int) : cw f_cmp_Compare_uint64 [.v (.int .u64 a), .v (.int .u64 b)] [] = some (r_cmp_Compare_uint64.enc (cmpZ a b)) := by
  refine e_cmp_Compare_uint64 a b ?_
  rw [callD_of (c_isNaN a), callD_of (c_isNaN b), brn_f rfl, brn_f rfl, brn_dec, brn_dec]
  unfold cmpZ
  split
  · rfl
  · split <;> rfl

theorem cmpZ_lt {a b : Int} (h : a < b) : cmpZ a b = -1 := if_pos h
theorem cmpZ_gt {a b : Int} (h : b < a) : cmpZ a b = 1 := by unfold cmpZ; rw [if_neg (by omega), if_pos h]
theorem cmpZ_eq {a b : Int} (h : a = b) : cmpZ a b = 0 := by unfold cmpZ; rw [if_neg (by omega), if_neg (by omega)]

theorem cmpZ_nonneg {a b : Int} (h : b ≤ a) : 0 ≤ cmpZ a b := by
  unfold cmpZ
  rw [if_neg (by omega)]
  split <;> omega

theorem c_wcompare (a b : Nat) : cw f_ratio_wide_compare [.agg (dGratioWide.enc (W a)), .agg (dGratioWide.enc (W b))] [] = some (r_ratio_wide_compare.enc (cmpZ a b)) := by
  refine e_ratio_wide_compare _ _ ?_
  have ha : (W a).hi = ((a / 18446744073709551616 : Nat) : Int) := rfl
  have hb : (W b).hi = ((b / 18446744073709551616 : Nat) : Int) := rfl
  have la : (W a).lo = ((a % 18446744073709551616 : Nat) : Int) := rfl
  have lb : (W b).lo = ((b % 18446744073709551616 : Nat) : Int) := rfl
  rw [callD_of (c_cmp _ _)]
  rcases Nat.lt_trichotomy (a / 18446744073709551616) (b / 18446744073709551616) with h | h | h
  · have e : cmpZ (W a).hi (W b).hi = -1 := cmpZ_lt (by rw [ha, hb]; omega)
    rw [e, brn_t (by rfl), cmpZ_lt (by omega)]
  · have e : cmpZ (W a).hi (W b).hi = 0 := cmpZ_eq (by rw [ha, hb, h])
    rw [e, brn_f (by rfl), callD_of (c_cmp _ _)]
    rcases Nat.lt_trichotomy a b with h' | h' | h'
    · rw [cmpZ_lt (by rw [la, lb]; omega), cmpZ_lt (by omega)]
    · rw [cmpZ_eq (by rw [la, lb, h']), cmpZ_eq (by omega)]
    · rw [cmpZ_gt (by rw [la, lb]; omega), cmpZ_gt (by omega)]
  · have e : cmpZ (W a).hi (W b).hi = 1 := cmpZ_gt (by rw [ha, hb]; omega)
    rw [e, brn_t (by rfl), cmpZ_gt (by omega)]

theorem c_Div64s (a d : Nat) (ha : a < 18446744073709551616) (hd : 0 < d) : cw f_bits_Div64 [U 0, U a, U d] [] = some (r_bits_Div64.enc (((a / d : Nat) : Int), ((a % d : Nat) : Int))) := by
  refine e_bits_Div64 (a : Int) (d : Int) ?_
  have h1 : (a : Int).tdiv (d : Int) = ((a / d : Nat) : Int) := rfl
  have h2 : (a : Int).tmod (d : Int) = ((a % d : Nat) : Int) := rfl
  have h3 : a / d ≤ a := Nat.div_le_self a d
  rw [brn_f (by simp; omega), brn_dec, if_neg (by omega), chk_pos (by omega), chk_pos (by omega), h1, h2, wuN (by omega)]

theorem c_modS (a d : Nat) (ha : a < 18446744073709551616) (hd : 0 < d) : cw f_ratio_wide_mod [.agg (dGratioWide.enc (W a)), U d] [] = some (r_ratio_wide_mod.enc ((a % d : Nat) : Int)) := by
  refine e_ratio_wide_mod _ _ ?_
  have hW : W a = ⟨((0 : Nat) : Int), (a : Int)⟩ := by unfold W; rw [Nat.div_eq_of_lt ha, Nat.mod_eq_of_lt ha]
  have hR : cw f_bits_Rem64 [U 0, U a, U d] [] = some (r_bits_Rem64.enc ((a % d : Nat) : Int)) := by
    refine e_bits_Rem64 _ _ _ ?_
    have h0 : ((0 : Nat) : Int).tmod (d : Int) = ((0 : Nat) : Int) := by simp
    rw [chk_pos (by omega), h0, callD_of (c_Div64s a d ha hd)]
  rw [hW, callD_of hR]

theorem c_overS (a d : Nat) (ha : a < 18446744073709551616) (hd : 0 < d) : cw f_ratio_wide_over [.agg (dGratioWide.enc (W a)), U d] [] = some (r_ratio_wide_over.enc (W (a / d))) := by
  refine e_ratio_wide_over _ _ ?_
  have hW : W a = ⟨((0 : Nat) : Int), (a : Int)⟩ := by unfold W; rw [Nat.div_eq_of_lt ha, Nat.mod_eq_of_lt ha]
  have h3 : a / d ≤ a := Nat.div_le_self a d
  have hW2 : W (a / d) = ⟨((0 : Nat) : Int), ((a / d : Nat) : Int)⟩ := by unfold W; rw [Nat.div_eq_of_lt (by omega), Nat.mod_eq_of_lt (by omega)]
  have h0 : ((0 : Nat) : Int).tmod (d : Int) = ((0 : Nat) : Int) := by simp
  have h1 : ((0 : Nat) : Int).tdiv (d : Int) = ((0 : Nat) : Int) := by simp
  rw [hW, hW2, chk_pos (by omega), chk_pos (by omega), h0, h1, callD_of (c_Div64s a d ha hd), wuN (by omega)]

/-- a number with its sign -/
def sgn (s : Bool) (n : Nat) : Int := if s then -(n : Int) else n

theorem c_fitted (s : Bool) (n d : Nat) (hn : n ≤ 1152921504606846976) (hd : d ≤ 1152921504606846976) :
    cw f_ratio_fitted [B s, .agg (dGratioWide.enc (W n)), .agg (dGratioWide.enc (W d))] [] = some (r_ratio_fitted.enc (⟨sgn s n, d⟩, 0)) := by
  refine e_ratio_fitted _ _ _ ?_
  have hW : W n = ⟨((0 : Nat) : Int), (n : Int)⟩ := by unfold W; rw [Nat.div_eq_of_lt (by omega), Nat.mod_eq_of_lt (by omega)]
  have hW2 : W d = ⟨((0 : Nat) : Int), (d : Int)⟩ := by unfold W; rw [Nat.div_eq_of_lt (by omega), Nat.mod_eq_of_lt (by omega)]
  rw [hW, hW2, brn_f (by rfl), brn_f (by rfl), brn_dec, if_neg (by show ¬ (1152921504606846976 : Int) < (n : Int); omega), brn_dec, if_neg (by show ¬ (1152921504606846976 : Int) < (d : Int); omega)]
  have e1 : w64 (n : Int) = n := w64_id (by omega) (by omega)
  have e2 : w64 (d : Int) = d := w64_id (by omega) (by omega)
  have e3 : w64 (0 - (n : Int)) = -(n : Int) := by rw [w64_id (by omega) (by omega)]; omega
  cases s with
  | true => rw [brn_t rfl, e1, e2, e3]; rfl
  | false => rw [brn_f rfl, e1, e2]; rfl

theorem c_signedProduct (n : Int) (f : Nat) (h1 : -9223372036854775808 ≤ n) (h2 : n < 9223372036854775808) (hf : f < 18446744073709551616) :
    cw f_ratio_signedProduct [I n, U f] [] = some (r_ratio_signedProduct.enc ⟨decide (n < 0), W (n.natAbs * f)⟩) := by
  refine e_ratio_signedProduct _ _ ?_
  rw [callD_of (c_magnitude n h1 h2), callD_of (c_product n.natAbs f (by omega) hf)]

end Go.Proofs.Ytohpjbokhcifbaa
