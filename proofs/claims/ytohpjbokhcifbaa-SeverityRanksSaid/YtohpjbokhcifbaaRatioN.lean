/- New fractions, of the program. -/
import Derived.Test.YtohpjbokhcifbaaRatio3
namespace Go.Proofs.Ytohpjbokhcifbaa
open Go.Ab Go.Pure
set_option linter.unusedVariables false

theorem c_New (N : Int) (D : Nat) (h0 : 0 < D) (hN : N.natAbs ≤ 1152921504606846976) (hD : D ≤ 1152921504606846976) : cw f_ratio_New [I N, I (D : Int)] [] = some (r_ratio_New.enc (ofR (mkRat N D), 0)) := by
  generalize hg : D.gcd N.natAbs = g
  have hg0 : 0 < g := hg ▸ Nat.gcd_pos_of_pos_left _ h0
  have hgN : g ∣ N.natAbs := hg ▸ Nat.gcd_dvd_right _ _
  have l1 : N.natAbs / g ≤ N.natAbs := Nat.div_le_self _ _
  have l2 : D / g ≤ D := Nat.div_le_self _ _
  have hne : D ≠ 0 := by omega
  have hmod : (N.natAbs % D).gcd D = g := by rw [← hg, ← Nat.gcd_rec]
  have hres : (⟨sgn (decide (N < 0)) (N.natAbs / g), ((D / g : Nat) : Int)⟩ : GRatio) = ofR (mkRat N D) := by
    unfold ofR
    rw [Rat.num_mkRat, Rat.den_mkRat, if_neg hne, if_neg hne, hg, sgn_div _ _ _ hgN, ← sgn_of]
  have hW : (⟨0, ((D / g : Nat) : Int)⟩ : GratioWide) = W (D / g) := by unfold W; rw [Nat.div_eq_of_lt (show D / g < 18446744073709551616 by omega), Nat.mod_eq_of_lt (show D / g < 18446744073709551616 by omega)]; rfl
  have hWN : (⟨0, (N.natAbs : Int)⟩ : GratioWide) = W N.natAbs := by unfold W; rw [Nat.div_eq_of_lt (by omega), Nat.mod_eq_of_lt (by omega)]; rfl
  have hr : cw f_ratio_reduced [.agg (dGratioSigned.enc ⟨decide (N < 0), W N.natAbs⟩), U D] [] = some (r_ratio_reduced.enc (ofR (mkRat N D), 0)) := by
    refine e_ratio_reduced _ _ ?_
    show callD r_ratio_wide_mod (cw f_ratio_wide_mod [.agg (dGratioWide.enc (W N.natAbs)), U D] []) _ = _
    rw [callD_of (c_modS N.natAbs D (by omega) h0), callD_of (c_gcd _ _), hmod]
    show callD r_ratio_wide_over (cw f_ratio_wide_over [.agg (dGratioWide.enc (W N.natAbs)), U g] []) _ = _
    rw [callD_of (c_overS N.natAbs g (by omega) hg0), chk_pos (by omega), tdivN, wuN (by omega), hW]
    show callD r_ratio_fitted (cw f_ratio_fitted [B (decide (N < 0)), .agg (dGratioWide.enc (W (N.natAbs / g))), .agg (dGratioWide.enc (W (D / g)))] []) _ = _
    rw [callD_of (c_fitted _ (N.natAbs / g) (D / g) (by omega) (by omega)), hres]
  refine e_ratio_New _ _ ?_
  have hb : ((D : Int) == 0) = false := beq_false_of_ne (by omega)
  have hs : (!decide (N < 0) == decide ((D : Int) < 0)) = decide (N < 0) := by
    rw [decide_eq_false (show ¬ (D : Int) < 0 by omega)]
    cases decide (N < 0) <;> rfl
  rw [brn_f hb, callD_of (c_magnitude N (by omega) (by omega)), callD_of (c_magnitude (D : Int) (by omega) (by omega)), Int.natAbs_natCast, hs, hWN, callD_of hr]
end Go.Proofs.Ytohpjbokhcifbaa
