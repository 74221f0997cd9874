/- Equating a distribution with itself, and through another one and back. -/
import Derived.Test.YtapkemilafogjaaLaws34a
import Derived.Test.YtapkemilafogjaaDiag
namespace Go.Proofs.Ytapkemilafogjaa
open Go.Ab Go.Pure Go.Sort
set_option linter.unusedVariables false

/-! ## lines -/
theorem lpair {s t : Rat} {P : Pt → Prop} (h0 : P ((0 : Rat), t)) (h1 : P ((1 : Rat), s + t)) : ∀ p ∈ lp s t, P p := by
  intro p hp
  unfold lp at hp
  simp at hp
  rcases hp with rfl | rfl
  · exact h0
  · exact h1

theorem line_e3 {s t s' t' : Rat} (l1 : LineOk s t) (l2 : LineOk s' t') (e1 : t' * s = -t) (e2 : (s' + t') * s = 1 - t) : ∀ q ∈ lp s' t', Each (lp s t) fun p' q' => EvOk p' q' q.2 := by
  refine lpair ?_ ?_
  · exact l1.ev (n := 27) (d := 25) l2.bt (by rw [e1]; exact l1.bt.neg) (by omega) (by omega) (by omega) (by omega)
  · exact l1.ev (n := 28) (d := 25) l2.bst (by rw [e2]; exact one_bd.sub l1.bt (by omega) (by omega) (by omega)) (by omega) (by omega) (by omega) (by omega)

theorem diagL {s t s' t' : Rat} (l1 : LineOk s t) (l2 : LineOk s' t') (hs : s' = s⁻¹) (ht : t' = -t * s⁻¹) : DiagOk (lp s t) (lp s' t') := by
  have hne : s ≠ 0 := by have := l1.pos; grind
  have hi : s⁻¹ * s = 1 := Rat.inv_mul_cancel _ hne
  have f1 : t' * s = -t := by rw [ht]; grind
  have f2 : (s' + t') * s = 1 - t := by rw [ht, hs]; grind
  have f3 : t * s' = -t' := by rw [ht, hs]; grind
  have f4 : (s + t) * s' = 1 - t' := by rw [ht, hs]; grind
  have hex : ∀ z, cv (ex (lp s t)) z = cv (lp s' t') z := fun z => by
    have := nf_ex_lp (t := t) l1.pos hs ht
    rw [← this, ev_nf (ex_asc (lp_asc l1.pos)) (by rw [ex_len]; simp [lp])]
  have g2 : 2 ≤ (lp s t).length := by simp [lp]
  have g2' : 2 ≤ (lp s' t').length := by simp [lp]
  have q2 : ∀ q ∈ lp s' t', cv (ex (lp s t)) q.1 = q.2 := fun q hq => by rw [hex, ev_through (lp_asc l2.pos) g2' q hq]
  have nX := l1.normX
  have n1 := l1.norm
  have n2 := l2.norm
  exact {
    fa := lp_asc l1.pos
    fl := g2
    fv := l1.vals
    ga := lp_asc l2.pos
    gl := g2'
    gv := l2.vals
    len := by simp [lp]
    hid := fun x => by rw [← hex, ex_back (lp_asc l1.pos) g2]
    inv := fun q hq => ⟨by rw [q2 q hq]; exact (l2.vals q hq).2, lpair (s := s') (t := t') (P := fun q => Each (ex (lp s t)) fun p' q' => EvOk p' q' q.1) nX.lft.2 nX.rgt.2 q hq⟩
    xf := fun p hp => ⟨lpair (s := s) (t := t) (P := fun q => Each (lp s t) fun p' q' => EvOk p' q' q.1) n1.lft.2 n1.rgt.2 p hp, line_e3 l2 l1 f3 f4 p hp⟩
    xg := fun q hq => ⟨by rw [q2 q hq]; exact line_e3 l1 l2 f1 f2 q hq, lpair (s := s') (t := t') (P := fun q => Each (lp s' t') fun p' q' => EvOk p' q' q.1) n2.lft.2 n2.rgt.2 q hq⟩
    nb := fun u v huv hu hv _ _ => by
      have cl : ∀ w, ((∃ p ∈ lp s t, p.1 = w) ∨ ∃ q ∈ lp s' t', cv (ex (lp s t)) q.1 = w) → Bd 0 0 w ∨ w = t' ∨ w = s' + t' := by
        intro w hw
        rcases hw with ⟨p, hp, rfl⟩ | ⟨q, hq, rfl⟩
        · left
          exact lpair (s := s) (t := t) (P := fun p => Bd 0 0 p.1) zero_bd one_bd p hp
        · rw [q2 q hq]
          right
          exact lpair (s := s') (t := t') (P := fun q => q.2 = t' ∨ q.2 = s' + t') (.inl rfl) (.inr rfl) q hq
      have big : ∀ w, (w = t' ∨ w = s' + t') → Bd 28 25 w := fun w hw => by
        rcases hw with rfl | rfl
        · exact l2.bt.mono (by omega) (by omega)
        · exact l2.bst
      rcases cl u hu with cu | cu
      · rcases cl v hv with cv' | cv'
        · exact pairOk huv cu cv' (N := 1) (D := 0) (cv'.sub cu (by omega) (by omega) (by omega)) (by omega) (by omega) (by omega) (by omega) (by omega) (by omega)
        · exact pairOk huv cu (big v cv') (N := 29) (D := 25) ((big v cv').sub cu (by omega) (by omega) (by omega)) (by omega) (by omega) (by omega) (by omega) (by omega) (by omega)
      · rcases cl v hv with cv' | cv'
        · exact pairOk huv (big u cu) cv' (N := 29) (D := 25) (cv'.sub (big u cu) (by omega) (by omega) (by omega)) (by omega) (by omega) (by omega) (by omega) (by omega) (by omega)
        · have hd : Bd 25 25 (v - u) := by
            have hp := l2.pos
            rcases cu with rfl | rfl <;> rcases cv' with rfl | rfl
            · grind
            · have : s' + u - u = s' := by grind
              rw [this]; exact l2.bs
            · grind
            · grind
          exact pairOk huv (big u cu) (big v cv') hd (by omega) (by omega) (by omega) (by omega) (by omega) (by omega) }

/-! ## percentiles -/
theorem ends_pc {x y : List Int} (hx : FD x) (hy : FD y) (h0 : bn (pc x y) = []) : ∀ p ∈ nf (pc x y), Bd 12 10 p.2 := by
  have h := pts_nice hx hy
  intro p hp
  rcases nf_pts h.asc h.len p hp with e | ⟨c, hc, t, ht, e⟩ | ⟨c, hc, t, ht, e⟩
  · rw [show bn (pts (shr x) (shr y) x.length y.length) = [] from h0] at e; cases e
  · rw [show bn (pts (shr x) (shr y) x.length y.length) = [] from h0] at hc; cases hc
  · have bt := h.sls t ht
    have ec : c = (-1 / 2, -1 / 2) := by
      unfold pts at hc
      simp at hc
      exact hc.symm
    have b0 : Bd 1 1 ((0 : Rat) - -1 / 2) := ⟨by decide +kernel, by decide +kernel⟩
    have b1 : Bd 2 1 ((1 : Rat) - -1 / 2) := ⟨by decide +kernel, by decide +kernel⟩
    have c0 : Bd 9 9 (((0 : Rat) - -1 / 2) * t) := b0.mul bt (by omega) (by omega)
    have c1 : Bd 10 9 (((1 : Rat) - -1 / 2) * t) := b1.mul bt (by omega) (by omega)
    have d0 : Bd 12 10 (-1 / 2 + ((0 : Rat) - -1 / 2) * t) := half_bd.add c0 (by omega) (by omega) (by omega)
    have d1 : Bd 12 10 (-1 / 2 + ((1 : Rat) - -1 / 2) * t) := half_bd.add c1 (by omega) (by omega) (by omega)
    rcases e with e | e
    · rw [e, ec]; exact d0
    · rw [e, ec]; exact d1

/-- a value is small, or it belongs to one of the two end points of a curve with bends -/
theorem cls_pc {x y : List Int} (hx : FD x) (hy : FD y) : ∀ q ∈ nf (pc x y), Bd 13 10 q.2 ∨ (bn (pc x y) ≠ [] ∧ (q = (lf (bn (pc x y)), cv (pc x y) (lf (bn (pc x y)))) ∨ q = (rt (bn (pc x y)), cv (pc x y) (rt (bn (pc x y)))))) := by
  intro q hq
  by_cases h0 : bn (pc x y) = []
  · exact .inl ((ends_pc hx hy h0 q hq).mono (by omega) (by omega))
  · have h := pts_nice hx hy
    have hq' := hq
    unfold nf at hq'
    rcases List.mem_cons.1 hq' with e | e
    · exact .inr ⟨h0, .inl e⟩
    · rcases List.mem_append.1 e with e | e
      · exact .inl ((h.pb q ((bn_sub _).subset e)).2.mono (by omega) (by omega))
      · exact .inr ⟨h0, .inr (List.mem_singleton.1 e)⟩

theorem diagP {x y : List Int} (hx : FD x) (hy : FD y) : DiagOk (nf (pc x y)) (nf (pc y x)) := by
  have hf := nf_nice hx hy
  have hg := nf_nice hy hx
  have p1 := pts_nice hx hy
  have p2 := pts_nice hy hx
  have hsw : pc y x = ex (pc x y) := pts_swap _ _ _ _
  have hfx : Nice 21 17 13 9 (ex (nf (pc x y))) := by
    refine ⟨ex_asc hf.asc, by rw [ex_len]; exact hf.len, by rw [ex_len]; exact hf.len2, fun p hp => ?_, fun t ht => ?_⟩
    · unfold ex at hp
      obtain ⟨q, hq, rfl⟩ := List.mem_map.1 hp
      exact ⟨(hf.pb q hq).2, (hf.pb q hq).1⟩
    · obtain ⟨s, hs, rfl⟩ := ex_sl ht
      exact (hf.sls s hs).inv
  have hexp : ∀ z, cv (ex (nf (pc x y))) z = cv (nf (pc y x)) z := fun z => by
    have e0 : nf (ex (nf (pc x y))) = nf (pc y x) := by rw [hsw]; exact nf_ex_nf p1.asc p1.len
    rw [← e0, ev_nf hfx.asc hfx.len]
  have q2 : ∀ q ∈ nf (pc y x), cv (ex (nf (pc x y))) q.1 = q.2 := fun q hq => (hexp q.1).trans (ev_through hg.asc hg.len q hq)
  have lf1 : (nf (pc x y)).length ≤ 15 := by
    have := bn_len _ p1.len
    have h2 := (pts_len hx.sh hy.sh).2
    have := hx.2.1
    have := hy.2.1
    show (nf (pts (shr x) (shr y) x.length y.length)).length ≤ 15
    unfold nf
    simp
    omega
  have lg1 : (nf (pc y x)).length ≤ 15 := by
    have := bn_len _ p2.len
    have h2 := (pts_len hy.sh hx.sh).2
    have := hx.2.1
    have := hy.2.1
    show (nf (pts (shr y) (shr x) y.length x.length)).length ≤ 15
    unfold nf
    simp
    omega
  exact {
    fa := hf.asc
    fl := hf.len
    fv := hf.vals (by omega) (by omega) (by omega) (by omega)
    ga := hg.asc
    gl := hg.len
    gv := hg.vals (by omega) (by omega) (by omega) (by omega)
    len := by omega
    hid := fun z => (hexp _).symm.trans (ex_back hf.asc hf.len z)
    inv := fun q hq => ⟨by rw [q2 q hq]; exact (hg.pb q hq).2.mono (by omega) (by omega), hfx.evOk (hg.pb q hq).1 (by omega) (by omega) (by omega) (by omega)⟩
    xf := fun p hp => ⟨hf.evOk (hf.pb p hp).1 (by omega) (by omega) (by omega) (by omega), hg.evOk (hf.pb p hp).2 (by omega) (by omega) (by omega) (by omega)⟩
    xg := fun q hq => ⟨by rw [q2 q hq]; exact hf.evOk (hg.pb q hq).2 (by omega) (by omega) (by omega) (by omega), hg.evOk (hg.pb q hq).1 (by omega) (by omega) (by omega) (by omega)⟩
    nb := fun u v huv hu hv n1 n2 => by
      have cl : ∀ w, ((∃ p ∈ nf (pc x y), p.1 = w) ∨ ∃ q ∈ nf (pc y x), cv (ex (nf (pc x y))) q.1 = w) → Bd 13 10 w ∨ (Bd 21 17 w ∧ bn (pc y x) ≠ [] ∧ ∃ q ∈ nf (pc y x), q.2 = w ∧ (q = (lf (bn (pc y x)), cv (pc y x) (lf (bn (pc y x)))) ∨ q = (rt (bn (pc y x)), cv (pc y x) (rt (bn (pc y x)))))) := by
        intro w hw
        rcases hw with ⟨p, hp, rfl⟩ | ⟨q, hq, rfl⟩
        · exact .inl ((hf.pb p hp).1.mono (by omega) (by omega))
        · rw [q2 q hq]
          rcases cls_pc hy hx q hq with h | ⟨h1, h2⟩
          · exact .inl h
          · exact .inr ⟨(hg.pb q hq).2, h1, q, hq, rfl, h2⟩
      rcases cl u hu with cu | ⟨bu, b0, qu, mu, eu, ku⟩
      · rcases cl v hv with cv' | ⟨bv, b0, qv, mv, ev, kv⟩
        · exact pairOk huv cu cv' (N := 24) (D := 20) (cv'.sub cu (by omega) (by omega) (by omega)) (by omega) (by omega) (by omega) (by omega) (by omega) (by omega)
        · exact pairOk huv cu bv (N := 32) (D := 27) (bv.sub cu (by omega) (by omega) (by omega)) (by omega) (by omega) (by omega) (by omega) (by omega) (by omega)
      · rcases cl v hv with cv' | ⟨bv, _, qv, mv, ev, kv⟩
        · exact pairOk huv bu cv' (N := 32) (D := 27) (cv'.sub bu (by omega) (by omega) (by omega)) (by omega) (by omega) (by omega) (by omega) (by omega) (by omega)
        · exfalso
          -- a bend lies between
          obtain ⟨c, hc⟩ := List.exists_mem_of_ne_nil _ b0
          have mc : c ∈ nf (pc y x) := by unfold nf; exact List.mem_cons_of_mem _ (List.mem_append_left _ hc)
          have ha := hg.asc
          have eq : nf (pc y x) = (lf (bn (pc y x)), cv (pc y x) (lf (bn (pc y x)))) :: (bn (pc y x) ++ [(rt (bn (pc y x)), cv (pc y x) (rt (bn (pc y x))))]) := rfl
          have ha' : Asc ((lf (bn (pc y x)), cv (pc y x) (lf (bn (pc y x)))) :: (bn (pc y x) ++ [(rt (bn (pc y x)), cv (pc y x) (rt (bn (pc y x))))])) := eq ▸ ha
          unfold Asc at ha'
          rw [List.pairwise_cons, List.pairwise_append] at ha'
          have l1 := ha'.1 c (List.mem_append_left _ hc)
          have l2 := ha'.2.2.2 c hc _ (List.mem_singleton.2 rfl)
          have hb := n2 c mc
          rw [q2 c mc] at hb
          dsimp only at l1 l2
          rcases ku with ku | ku <;> rcases kv with kv | kv <;> rw [ku] at eu <;> rw [kv] at ev <;> dsimp only at eu ev <;> grind }

/-! ## a distribution with itself -/
theorem self_cv {x : List Int} (hx : FD x) (k : Int) (hk : k = 0 ∨ k = 1 ∨ k = 2) (h : k = 1 → dvn x ≠ 0) (z : Rat) : cv (eqc k x x) z = z := by
  rcases hk with rfl | rfl | rfl
  · show cv (lp 1 (mn x - 1 * mn x)) z = z
    rw [cv_lp]; grind
  · show cv (lp (ls x x) (lt x x)) z = z
    have e : ls x x = 1 := by unfold ls; rw [Rat.div_def]; exact Rat.mul_inv_cancel _ (h rfl)
    rw [cv_lp]
    unfold lt
    rw [e]; grind
  · show cv (nf (pc x x)) z = z
    have p1 := pts_nice hx hx
    have hsw : pc x x = ex (pc x x) := pts_swap _ _ _ _
    have pa : Asc (pc x x) := p1.asc
    have pl : 2 ≤ (pc x x).length := p1.len
    rw [ev_nf pa pl]
    have hb := ex_back pa pl z
    rw [← hsw] at hb
    by_cases h1 : cv (pc x x) z < z
    · have := ev_mono pa pl h1
      grind
    · by_cases h2 : z < cv (pc x x) z
      · have := ev_mono pa pl h2
        grind
      · grind

theorem diag_eqc {x y : List Int} (hx : FD x) (hy : FD y) (k : Int) (hk : k = 0 ∨ k = 1 ∨ k = 2) (h : k = 1 → dvn x ≠ 0 ∧ dvn y ≠ 0) : DiagOk (eqc k x y) (eqc k y x) := by
  rcases hk with rfl | rfl | rfl
  · refine diagL (lineM hx hy) (lineM hy hx) (by decide +kernel) ?_
    have : (1 : Rat)⁻¹ = 1 := by decide +kernel
    rw [this]; grind
  · obtain ⟨z1, z2⟩ := h rfl
    have l1 := (lineL hx hy z1 z2).1
    have hs : ls y x = (ls x y)⁻¹ := by
      unfold ls
      rw [Rat.div_def, Rat.div_def, Rat.inv_mul_rev, Rat.inv_inv]
    refine diagL l1 (lineL hy hx z2 z1).1 hs ?_
    unfold lt
    rw [hs]
    have : ls x y ≠ 0 := by have := l1.pos; grind
    grind
  · exact diagP hx hy
end Go.Proofs.Ytapkemilafogjaa
