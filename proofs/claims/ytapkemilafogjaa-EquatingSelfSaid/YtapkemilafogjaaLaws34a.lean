/- The statements on equating: means, back. -/
import Derived.Test.YtapkemilafogjaaEquJ
import Derived.Test.YtapkemilafogjaaRefD
namespace Go.Proofs.Ytapkemilafogjaa
open Go.Ab Go.Pure
set_option linter.unusedVariables false

theorem c_w34 (n : Int) : cw f_law34_whole [I n] [] = some (r_law34_whole.enc (ofR (n : Rat))) := e_law34_whole n rfl

theorem fd2 : FD [1, 1] := ⟨by decide, by decide, by decide⟩
theorem fd4 : FD [1, 1, 1, 1] := ⟨by decide, by decide, by decide⟩

theorem nfEval {x y : List Int} (hx : FD x) (hy : FD y) {u : Rat} (hu : Bd 13 9 u) : cw f_conversion_Eval [aC (nf (pc x y)), aR u] [] = some (r_conversion_Eval.enc (ofR (cv (pc x y) u), 0)) := by
  have hn := nf_nice hx hy
  have h := pts_nice hx hy
  have := g_Eval (nf (pc x y)) u hn.asc hn.len hn.len2 (hn.vals (by omega) (by omega) (by omega) (by omega)) (.mk hu (by omega) (by omega)) (hn.evOk hu (by omega) (by omega) (by omega) (by omega))
  rwa [show cv (nf (pc x y)) u = cv (pc x y) u from ev_nf h.asc h.len u] at this

theorem saneP : cv (pc [1, 1] [1, 1, 1, 1]) ((0 : Int) : Rat) = 1 / 2 := by kernel_rfl
theorem saneM : (mn [1, 1, 1, 1] - 1 * mn [1, 1]) + ((5 : Int) : Rat) * 1 = ((6 : Int) : Rat) := by kernel_rfl
theorem half_of : ofR (1 / 2 : Rat) = ⟨1, 2⟩ := by
  have h1 : (1 / 2 : Rat).num = 1 := by decide +kernel
  have h2 : (1 / 2 : Rat).den = 2 := by decide +kernel
  unfold ofR
  rw [h1, h2]
  rfl

theorem c_sane : cw f_law34_sane [] [] = some (r_law34_sane.enc true) := by
  have h1 := nfEval fd2 fd4 (u := ((0 : Int) : Rat)) (zero_bd.mono (by omega) (by omega))
  rw [saneP, half_of] at h1
  have b5 : Bd 3 0 ((5 : Int) : Rat) := ⟨by decide, by decide⟩
  have h2 := (lineM fd2 fd4).eval (x := ((5 : Int) : Rat)) (n := 3) (d := 0) b5 (by
    have : ((5 : Int) : Rat) * 1 = ((5 : Int) : Rat) := by grind
    rw [this]; exact b5) (by omega) (by omega) (by omega) (by omega)
  rw [saneM] at h2
  refine e_law34_sane ?_
  rw [callD_of (c_Percentile fd2 fd4), callD_of (c_w34 0)]
  show callD r_conversion_Eval (cw f_conversion_Eval [aC (nf (pc [1, 1] [1, 1, 1, 1])), aR ((0 : Int) : Rat)] []) _ = _
  rw [callD_of h1, callD_of (c_EMean fd2 fd4), callD_of (c_w34 5)]
  show callD r_conversion_Eval (cw f_conversion_Eval [aC (lp 1 (mn [1, 1, 1, 1] - 1 * mn [1, 1])), aR ((5 : Int) : Rat)] []) _ = _
  rw [callD_of h2, brn_t (by rfl), brn_t (by rfl), brn_t (by rfl), brn_t (by rfl), brn_t (by rfl), callD_of (c_w34 6)]
  rfl

theorem fd_of {m : List Int} (h1 : 1 ≤ m.length) (h2 : (m.length : Int) ≤ 6 + 1) (h3 : ∀ c ∈ m, (if true = true then (1 : Int) else 0) ≤ c ∧ c ≤ (if true = true then (1 : Int) else 0) + 5) : FD m :=
  ⟨h1, by omega, fun c hc => by have := h3 c hc; simp only [if_true] at this; omega⟩

/-- equating, as one function: the kind's curve, if there is one -/
def eqc (k : Int) (x y : List Int) : List Pt := if k = 0 then lp 1 (mn y - 1 * mn x) else if k = 1 then lp (ls x y) (lt x y) else nf (pc x y)

theorem c_Equate {x y : List Int} (hx : FD x) (hy : FD y) (k : Int) (hk : k = 0 ∨ k = 1 ∨ k = 2) (h : k = 1 → dvn x ≠ 0 ∧ dvn y ≠ 0) : cw f_equating_Equate [I k, aD x, aD y] [] = some (r_equating_Equate.enc (⟨(eqc k x y).map ofP⟩, 0)) := by
  refine e_equating_Equate _ _ _ ?_
  rcases hk with rfl | rfl | rfl
  · rw [brn_t (by rfl), callD_of (c_EMean hx hy)]; rfl
  · rw [brn_f (by rfl), brn_t (by rfl), callD_of (c_Linear hx hy (h rfl).1 (h rfl).2)]; rfl
  · rw [brn_f (by rfl), brn_f (by rfl), brn_t (by rfl), callD_of (c_Percentile hx hy)]; rfl

theorem c_Equate0 {x y : List Int} (hx : FD x) (hy : FD y) (h : dvn x = 0 ∨ dvn y = 0) : cw f_equating_Equate [I 1, aD x, aD y] [] = some (r_equating_Equate.enc (⟨[]⟩, 10)) := by
  refine e_equating_Equate _ _ _ ?_
  rw [brn_f (by rfl), brn_t (by rfl), callD_of (c_Linear0 hx hy h)]

/-- what holds of each kind's curve, of its inverse and of the one the other way round -/
theorem eq_back {x y : List Int} (hx : FD x) (hy : FD y) (k : Int) (hk : k = 0 ∨ k = 1 ∨ k = 2) (h : k = 1 → dvn x ≠ 0 ∧ dvn y ≠ 0) :
    Asc (eqc k x y) ∧ 2 ≤ (eqc k x y).length ∧ (eqc k x y).length ≤ 410 ∧ AllV (eqc k x y) ∧ NormOk (ex (eqc k x y)) ∧ NormOk (eqc k y x) ∧ nf (ex (eqc k x y)) = eqc k y x := by
  rcases hk with rfl | rfl | rfl
  · have l1 := lineM hx hy
    have l2 := lineM hy hx
    refine ⟨lp_asc l1.pos, by simp [eqc, lp], by simp [eqc, lp], l1.vals, l1.normX, l2.norm, ?_⟩
    show nf (ex (lp 1 (mn y - 1 * mn x))) = lp 1 (mn x - 1 * mn y)
    refine nf_ex_lp l1.pos ?_ ?_
    · decide +kernel
    · have : (1 : Rat)⁻¹ = 1 := by decide +kernel
      rw [this]; grind
  · obtain ⟨z1, z2⟩ := h rfl
    have l1 := (lineL hx hy z1 z2).1
    have l2 := (lineL hy hx z2 z1).1
    refine ⟨lp_asc l1.pos, by simp [eqc, lp], by simp [eqc, lp], l1.vals, l1.normX, l2.norm, ?_⟩
    show nf (ex (lp (ls x y) (lt x y))) = lp (ls y x) (lt y x)
    have hs : ls y x = (ls x y)⁻¹ := by
      unfold ls
      rw [Rat.div_def, Rat.div_def, Rat.inv_mul_rev, Rat.inv_inv]
    refine nf_ex_lp l1.pos hs ?_
    unfold lt
    rw [hs]
    have : ls x y ≠ 0 := by have := l1.pos; grind
    grind
  · have h1 := pts_nice hx hy
    have h2 := nf_nice hx hy
    have h3 := nf_nice hy hx
    have hsw : pc y x = ex (pc x y) := pts_swap _ _ _ _
    have e : nf (ex (nf (pc x y))) = nf (pc y x) := by rw [hsw]; exact nf_ex_nf h1.asc h1.len
    have hx' : Nice 21 17 13 9 (ex (nf (pc x y))) := by
      refine ⟨ex_asc h2.asc, by rw [ex_len]; exact h2.len, by rw [ex_len]; exact h2.len2, fun p hp => ?_, fun t ht => ?_⟩
      · unfold ex at hp
        obtain ⟨q, hq, rfl⟩ := List.mem_map.1 hp
        exact ⟨(h2.pb q hq).2, (h2.pb q hq).1⟩
      · obtain ⟨s, hs, rfl⟩ := ex_sl ht
        exact (h2.sls s hs).inv
    have hbn : bn (ex (nf (pc x y))) = bn (pc y x) := by
      rw [hsw]
      refine canon_bn hx'.asc hx'.len (ex_asc h1.asc) (by rw [ex_len]; exact h1.len) (fun z => ?_)
      have e1 := ex_forth h1.asc h1.len z
      have e2 := ex_back h2.asc h2.len (cv (ex (pts (shr x) (shr y) x.length y.length)) z)
      rw [ev_nf h1.asc h1.len, e1] at e2
      exact e2
    have hb2 : ∀ p ∈ bn (nf (pc y x)), Bd 12 9 p.1 := fun p hp => by
      rw [show bn (nf (pc y x)) = bn (pc y x) from bn_nf (pts_nice hy hx).asc (pts_nice hy hx).len] at hp
      exact ((pts_nice hy hx).pb p ((bn_sub _).subset hp)).1
    refine ⟨h2.asc, h2.len, h2.len2, h2.vals (by omega) (by omega) (by omega) (by omega), ?_, ?_, e⟩
    · refine hx'.norm (fun p hp => ?_) (by omega) (by omega) (by omega) (by omega)
      rw [hbn] at hp
      exact ((pts_nice hy hx).pb p ((bn_sub _).subset hp)).1
    · exact h3.norm hb2 (by omega) (by omega) (by omega) (by omega)

theorem nf_eqc {x y : List Int} (hx : FD x) (hy : FD y) (k : Int) (hk : k = 0 ∨ k = 1 ∨ k = 2) : nf (eqc k x y) = eqc k x y := by
  rcases hk with rfl | rfl | rfl
  · exact nf_lp _ _
  · exact nf_lp _ _
  · exact nf_nf (pts_nice hx hy).asc (pts_nice hx hy).len

end Go.Proofs.Ytapkemilafogjaa
