/- Curves: the slopes and the points of a normal form. -/
import Derived.Test.YtiienbfdcgipnaaPureC2
namespace Go.Pure
set_option linter.unusedVariables false

/-- a slope of a curve -/
def IsSl (l : List Pt) (t : Rat) : Prop := ∃ (c : Nat) (p q : Pt), l[c]? = some p ∧ l[c + 1]? = some q ∧ t = sl p q

theorem sg_sl : ∀ (r : List Pt) (q : Pt), ∀ b ∈ sg (q :: r), IsSl (q :: r) b.2
  | [], q, b, hb => by cases hb
  | s :: r, q, b, hb => by
    rcases List.mem_cons.1 hb with hb | hb
    · rw [hb]; exact ⟨0, q, s, rfl, rfl, rfl⟩
    · obtain ⟨c, p, q', h1, h2, h3⟩ := sg_sl r s b hb
      exact ⟨c + 1, p, q', by simpa using h1, by simpa using h2, h3⟩

theorem bs_sub : ∀ (L : List (Pt × Rat)) (s : Rat), ∀ b ∈ bs s L, b ∈ L
  | [], _, b, hb => by cases hb
  | (c, t) :: r, s, b, hb => by
    unfold bs at hb
    split at hb
    · exact List.mem_cons_of_mem _ (bs_sub r s b hb)
    · rcases List.mem_cons.1 hb with hb | hb
      · rw [hb]; exact List.mem_cons_self
      · exact List.mem_cons_of_mem _ (bs_sub r t b hb)

/-- the normal form: bends, a first point on the first line, a last one on the last line, with their lines -/
theorem nf_form2 {l : List Pt} (h : Asc l) (hl : 2 ≤ l.length) : ∃ (a : Pt) (s : Rat) (L : List (Pt × Rat)) (z : Pt), nf l = a :: (L.map (·.1) ++ [z]) ∧ bn l = L.map (·.1) ∧ On a s L ∧ End a s L z ∧ IsSl l s ∧ (∀ b ∈ L, IsSl l b.2) ∧ a.1 = lf (bn l) ∧ z.1 = rt (bn l) ∧
    (L = [] → ∃ p, l.head? = some p ∧ a.2 = ln p s 0 ∧ z.2 = ln p s 1) := by
  match l, hl with
  | p :: q :: r, _ =>
    obtain ⟨h1, h2⟩ := sg_on r q p h
    obtain ⟨i1, i2, i3⟩ := bs_ok _ _ _ h1
    have he := bn_bs r q p
    have hev : ∀ x, cv (p :: q :: r) x = Fn p (sl p q) (bs (sl p q) (sg (q :: r))) x := fun x => by rw [ev_sg p q r h, i2]
    have hs : IsSl (p :: q :: r) (sl p q) := ⟨0, p, q, rfl, rfl, rfl⟩
    have hL : ∀ b ∈ bs (sl p q) (sg (q :: r)), IsSl (p :: q :: r) b.2 := fun b hb => by
      obtain ⟨c, p', q', g1, g2, g3⟩ := sg_sl r q b (bs_sub _ _ b hb)
      exact ⟨c + 1, p', q', by simpa using g1, by simpa using g2, g3⟩
    unfold nf
    rw [he]
    generalize bs (sl p q) (sg (q :: r)) = L at *
    generalize sl p q = s at *
    cases L with
    | nil =>
      have e0 : cv (p :: q :: r) 0 = ln p s 0 := hev 0
      have e1 : cv (p :: q :: r) 1 = ln p s 1 := hev 1
      refine ⟨(0, cv (p :: q :: r) 0), s, [], (1, cv (p :: q :: r) 1), rfl, rfl, trivial, ⟨by show (0 : Rat) < 1; decide, ?_⟩, hs, by simp, rfl, rfl, fun _ => ⟨p, rfl, e0, e1⟩⟩
      show cv (p :: q :: r) 1 = ln (0, cv (p :: q :: r) 0) s 1
      rw [e1]; exact (ln_move (b := (0, cv (p :: q :: r) 0)) e0 1).symm
    | cons b L =>
      obtain ⟨b, t⟩ := b
      have e0 : cv (p :: q :: r) (b.1 - 1) = ln p s (b.1 - 1) := by rw [hev]; unfold Fn; rw [if_pos (by grind)]
      refine ⟨(b.1 - 1, cv (p :: q :: r) (b.1 - 1)), s, (b, t) :: L, (_, _), rfl, rfl, ⟨by show b.1 - 1 < b.1; grind, ?_, i1.2.2⟩, ?_, hs, hL, rfl, rfl, by simp⟩
      · rw [i1.2.1]; exact (ln_move (a := p) (b := (b.1 - 1, cv (p :: q :: r) (b.1 - 1))) e0 b.1).symm
      · have hg := lastB_getLast L p s (b, t)
        have hlt : (lastB p s ((b, t) :: L)).1.1 < rt (((b, t) :: L).map (·.1)) := by
          rw [hg]
          exact lt1 _
        refine ⟨hlt, ?_⟩
        show cv (p :: q :: r) _ = _
        rw [hev]
        exact Fn_last _ _ _ i1 _ hlt

theorem form_slopes : ∀ (L : List (Pt × Rat)) (a : Pt) (s : Rat) (z : Pt), On a s L → End a s L z → ∀ (c : Nat) (p q : Pt), (a :: (L.map (·.1) ++ [z]))[c]? = some p → (a :: (L.map (·.1) ++ [z]))[c + 1]? = some q → sl p q = s ∨ ∃ b ∈ L, sl p q = b.2
  | [], a, s, z, ho, he, c, p, q, hp, hq => by
    cases c with
    | zero =>
      simp at hp hq
      rw [← hp, ← hq]
      exact .inl (sl_on (a := a) (z := z) (s := s) he.1 he.2)
    | succ c => simp at hq
  | (b, t) :: r, a, s, z, ho, he, c, p, q, hp, hq => by
    cases c with
    | zero =>
      simp at hp hq
      rw [← hp, ← hq]
      exact .inl (sl_on ho.1 ho.2.1)
    | succ c =>
      have hp' : (b :: (r.map (·.1) ++ [z]))[c]? = some p := by simpa using hp
      have hq' : (b :: (r.map (·.1) ++ [z]))[c + 1]? = some q := by simpa using hq
      rcases form_slopes r b t z ho.2.2 he c p q hp' hq' with h | ⟨d, hd, h⟩
      · exact .inr ⟨(b, t), List.mem_cons_self, h⟩
      · exact .inr ⟨d, List.mem_cons_of_mem _ hd, h⟩

/-- the slopes of the normal form are slopes of the curve -/
theorem nf_sl {l : List Pt} (h : Asc l) (hl : 2 ≤ l.length) {c : Nat} {p q : Pt} (hp : (nf l)[c]? = some p) (hq : (nf l)[c + 1]? = some q) : IsSl l (sl p q) := by
  obtain ⟨a, s, L, z, h1, h2, h3, h4, h5, h6, -⟩ := nf_form2 h hl
  rw [h1] at hp hq
  rcases form_slopes L a s z h3 h4 c p q hp hq with e | ⟨b, hb, e⟩
  · rw [e]; exact h5
  · rw [e]; exact h6 b hb

theorem lastB_mem : ∀ (L : List (Pt × Rat)) (a : Pt) (s : Rat) (b : Pt × Rat), lastB a s (b :: L) ∈ b :: L
  | [], _, _, _ => List.mem_cons_self
  | c :: L, a, s, b => List.mem_cons_of_mem _ (lastB_mem L b.1 b.2 c)

/-- the points of the normal form -/
theorem nf_pts {l : List Pt} (h : Asc l) (hl : 2 ≤ l.length) : ∀ p ∈ nf l, p ∈ bn l ∨ (∃ c ∈ bn l, ∃ t, IsSl l t ∧ (p = (c.1 - 1, c.2 - t) ∨ p = (c.1 + 1, c.2 + t))) ∨ (∃ c, l.head? = some c ∧ ∃ t, IsSl l t ∧ (p = (0, ln c t 0) ∨ p = (1, ln c t 1))) := by
  obtain ⟨a, s, L, z, h1, h2, h3, h4, h5, h6, h7, h8, h9⟩ := nf_form2 h hl
  intro p hp
  rw [h1] at hp
  cases L with
  | nil =>
    obtain ⟨c, hc, e1, e2⟩ := h9 rfl
    have e3 : bn l = [] := by rw [h2]; rfl
    rw [e3] at h7 h8
    right; right
    refine ⟨c, hc, s, h5, ?_⟩
    simp at hp
    rcases hp with hp | hp
    · left; rw [hp]; exact Prod.ext h7 e1
    · right; rw [hp]; exact Prod.ext h8 e2
  | cons b L =>
    obtain ⟨b, t⟩ := b
    have hb : b ∈ bn l := by rw [h2]; simp
    rcases List.mem_cons.1 hp with hp | hp
    · right; left
      refine ⟨b, hb, s, h5, .inl ?_⟩
      have e1 : a.1 = b.1 - 1 := by rw [h7, h2]; rfl
      have e2 : b.2 = ln a s b.1 := h3.2.1
      rw [hp]
      refine Prod.ext e1 ?_
      unfold ln at e2
      rw [e1] at e2
      dsimp only
      grind
    · rcases List.mem_append.1 hp with hp | hp
      · left; rw [h2]; exact hp
      · right; left
        rw [List.mem_singleton] at hp
        have hm := lastB_mem L a s (b, t)
        refine ⟨(lastB a s ((b, t) :: L)).1, ?_, (lastB a s ((b, t) :: L)).2, h6 _ hm, .inr ?_⟩
        · rw [h2]; exact List.mem_map.2 ⟨_, hm, rfl⟩
        · have hg := lastB_getLast L a s (b, t)
          have e1 : z.1 = (lastB a s ((b, t) :: L)).1.1 + 1 := by
            rw [h8, h2, hg]; rfl
          have e2 := h4.2
          rw [hp]
          refine Prod.ext e1 ?_
          unfold ln at e2
          rw [e2]
          dsimp only
          rw [e1]
          grind

/-- curves with the same values bend at the same points -/
theorem canon_bn {l m : List Pt} (hl : Asc l) (hl2 : 2 ≤ l.length) (hm : Asc m) (hm2 : 2 ≤ m.length) (h : ∀ x, cv l x = cv m x) : bn l = bn m := by
  obtain ⟨a, s, L, y, -, b1, o1, -, t1, f1⟩ := nf_form hl hl2
  obtain ⟨b, t, M, z, -, b2, o2, -, t2, f2⟩ := nf_form hm hm2
  have hh : ∀ x, Fn a s L x = Fn b t M x := fun x => by rw [f1, f2, h]
  have := uniq L M a s b t (min a.1 b.1) o1 t1 o2 t2 (fun c hc => by have := On_lt L a s o1 c hc; grind) (fun c hc => by have := On_lt M b t o2 c hc; grind) (fun x _ => hh x)
  rw [b1, b2, this.1]

/-- slopes of the exchanged curve -/
theorem ex_sl {l : List Pt} {t : Rat} (h : IsSl (ex l) t) : ∃ s, IsSl l s ∧ t = s⁻¹ := by
  obtain ⟨c, p, q, h1, h2, h3⟩ := h
  unfold ex at h1 h2
  rw [List.getElem?_map] at h1 h2
  obtain ⟨p', e1, rfl⟩ := Option.map_eq_some_iff.1 h1
  obtain ⟨q', e2, rfl⟩ := Option.map_eq_some_iff.1 h2
  refine ⟨sl p' q', ⟨c, p', q', e1, e2, rfl⟩, ?_⟩
  rw [h3]
  unfold sl
  dsimp only
  rw [Rat.div_def, Rat.div_def, Rat.inv_mul_rev, Rat.inv_inv]
end Go.Pure
