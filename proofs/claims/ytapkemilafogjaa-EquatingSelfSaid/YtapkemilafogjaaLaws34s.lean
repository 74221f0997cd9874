/- Equating a distribution with itself: the law. -/
import Derived.Test.YtapkemilafogjaaSelf34
namespace Go.Proofs.Ytapkemilafogjaa
open Go.Ab Go.Pure Go.Sort
set_option linter.unusedVariables false

theorem c_ChainI {x y : List Int} (hx : FD x) (hy : FD y) (k : Int) (hk : k = 0 ∨ k = 1 ∨ k = 2) (h : k = 1 → dvn x ≠ 0 ∧ dvn y ≠ 0) :
    cw f_equating_Chain [aD x, aD y, aD y, aD x, I k] [] = some (r_equating_Chain.enc (⟨idL.map ofP⟩, 0)) := by
  refine e_equating_Chain _ _ _ _ _ ?_
  rw [callD_of (c_Equate hx hy k hk h), brn_f (by rfl), callD_of (c_Equate hy hx k hk (fun e => (h e).symm)), brn_f (by rfl)]
  show callD r_conversion_Compose (cw f_conversion_Compose [aC (eqc k x y), aC (eqc k y x)] []) _ = _
  rw [callD_of (comp_diag (diag_eqc hx hy k hk h))]

theorem c_Chain0 {x y : List Int} (hx : FD x) (hy : FD y) (h : dvn x = 0 ∨ dvn y = 0) :
    cw f_equating_Chain [aD x, aD y, aD y, aD x, I 1] [] = some (r_equating_Chain.enc (⟨[]⟩, 10)) := by
  refine e_equating_Chain _ _ _ _ _ ?_
  rw [callD_of (c_Equate0 hx hy h), brn_t (by rfl)]

theorem idL_lp : idL = lp 1 0 := by kernel_rfl
theorem lineI : LineOk 1 0 := ⟨by decide, one_bd.mono (by omega) (by omega), zero_bd.mono (by omega) (by omega), (show Bd 0 0 ((1 : Rat) + 0) by rw [Rat.add_zero]; exact one_bd).mono (by omega) (by omega)⟩
theorem norm_idL : NormOk idL := by rw [idL_lp]; exact lineI.norm

theorem law_Self (t : List Int) (n : Int) (hn : (Lit.int .u8 n).wf = true) : cw f_law34_EquatingSelf [.sl 1 (List.map dI_i64.enc t), .v (.int .u8 n)] [] = some (r_law34_EquatingSelf.enc true) := by
  have hn' : 0 ≤ n ∧ n ≤ 255 := by
    have := hn
    simp only [Lit.wf, Bool.and_eq_true, decide_eq_true_eq] at this
    exact ⟨this.1, this.2⟩
  have k0 := Int.tmod_nonneg 3 hn'.1
  have k1 := Int.tmod_lt_of_pos n (show (0 : Int) < 3 by omega)
  refine e_law34_EquatingSelf t n ?_
  rw [callD_of (c_Light t), callD_of c_sane]
  by_cases ht : (t.length : Int) ≤ 600
  case neg => rw [decide_eq_false ht]; rfl
  rw [decide_eq_true ht, brn_nt, callD_of (c_Roll t)]
  obtain ⟨x, d1, h1, hd1, x1, x2, x3⟩ := c_Distribution ⟨t, 0⟩ 6 true ⟨Int.le_refl _, by show t.length ≤ 600; omega⟩ (by omega) (by omega)
  obtain ⟨y, d2, h2, hd2, y1, y2, y3⟩ := c_Distribution d1 6 true hd1 (by omega) (by omega)
  have hx := fd_of x1 x2 x3
  have hy := fd_of y1 y2 y3
  rw [callD_of h1, callD_of h2, chk_pos (by omega), w64_id (n := n.tmod 3) (by omega) (by omega)]
  generalize n.tmod 3 = k at *
  have hk : k = 0 ∨ k = 1 ∨ k = 2 := by omega
  rw [callD_of (c_w34 1), callD_of (c_w34 0)]
  show callD r_conversion_Line (cw f_conversion_Line [aR ((1 : Int) : Rat), aR ((0 : Int) : Rat)] []) _ = _
  have cL : cw f_conversion_Line [aR ((1 : Int) : Rat), aR ((0 : Int) : Rat)] [] = some (r_conversion_Line.enc (⟨idL.map ofP⟩, 0)) :=
    lineE ▸ g_Line (s := ((1 : Int) : Rat)) (t := ((0 : Int) : Rat)) (AddOk.mk one_bd zero_bd (by omega) (by omega) (by omega)) (one_bd.mono (by omega) (by omega)) (zero_bd.mono (by omega) (by omega)) (by decide)
  rw [callD_of cL]
  by_cases hz : k = 1 ∧ dvn x = 0
  · obtain ⟨rfl, hz⟩ := hz
    rw [callD_of (c_Equate0 hx hx (.inl hz)), callD_of (c_Chain0 hx hy (.inl hz)), brn_f (by rfl), brn_t (by rfl), brn_t (by rfl), brn_t (by rfl)]
  · have hnx : k = 1 → dvn x ≠ 0 := fun e h => hz ⟨e, h⟩
    obtain ⟨g1, g2, g3, g4, g5, g6, g7⟩ := eq_back hx hx k hk (fun e => ⟨hnx e, hnx e⟩)
    have hc : nf idL = nf (eqc k x x) := canon idL_asc (by decide) g1 g2 (fun z => by rw [idL_cv, self_cv hx k hk hnx])
    have s1 := g_SameT (eqc k x x) idL g6 norm_idL hc
    have s2 := g_SameT idL idL norm_idL norm_idL rfl
    rw [callD_of (c_Equate hx hx k hk (fun e => ⟨hnx e, hnx e⟩))]
    by_cases hy0 : k = 1 ∧ dvn y = 0
    · obtain ⟨rfl, hy0⟩ := hy0
      rw [callD_of (c_Chain0 hx hy (.inr hy0)), brn_f (by rfl), brn_f (by rfl), brn_t (by rfl)]
      show callD r_conversion_Same (cw f_conversion_Same [aC (eqc 1 x x), aC idL] []) _ = _
      rw [callD_of s1, brn_T, brn_t (by rfl)]
    · rw [callD_of (c_ChainI hx hy k hk (fun e => ⟨hnx e, fun h => hy0 ⟨e, h⟩⟩)), brn_f (by rfl), brn_f (by rfl), brn_t (by rfl)]
      show callD r_conversion_Same (cw f_conversion_Same [aC (eqc k x x), aC idL] []) _ = _
      rw [callD_of s1, brn_T, brn_f (by rfl), brn_t (by rfl)]
      show callD r_conversion_Same (cw f_conversion_Same [aC idL, aC idL] []) _ = _
      rw [callD_of s2, brn_T]
end Go.Proofs.Ytapkemilafogjaa
