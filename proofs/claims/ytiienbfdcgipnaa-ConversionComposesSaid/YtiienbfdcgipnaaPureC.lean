/- Curves: rising lines between points, over core's Rat; no program in sight. -/
namespace Go.Pure

abbrev Pt := Rat × Rat

/-- the slope between two points -/
def sl (p q : Pt) : Rat := (q.2 - p.2) / (q.1 - p.1)

/-- the line through a point -/
def ln (p : Pt) (s x : Rat) : Rat := p.2 + (x - p.1) * s

/-- the value of a curve -/
def cv : List Pt → Rat → Rat
  | p :: q :: r, x => if r = [] ∨ x ≤ q.1 then ln p (sl p q) x else cv (q :: r) x
  | _, _ => 0

def Asc (l : List Pt) : Prop := l.Pairwise fun p q => p.1 < q.1 ∧ p.2 < q.2

/-- a first line, then bends -/
def Fn : Pt → Rat → List (Pt × Rat) → Rat → Rat
  | a, s, [], x => ln a s x
  | a, s, (b, t) :: r, x => if x ≤ b.1 then ln a s x else Fn b t r x

/-- each bend lies on the line before it -/
def On : Pt → Rat → List (Pt × Rat) → Prop
  | _, _, [] => True
  | a, s, (b, t) :: r => a.1 < b.1 ∧ b.2 = ln a s b.1 ∧ On b t r

/-- the last bend and its line -/
def lastB : Pt → Rat → List (Pt × Rat) → Pt × Rat
  | a, s, [] => (a, s)
  | _, _, (b, t) :: r => lastB b t r

/-- a point on the last line, behind the last bend -/
def End (a : Pt) (s : Rat) (L : List (Pt × Rat)) (z : Pt) : Prop := (lastB a s L).1.1 < z.1 ∧ z.2 = ln (lastB a s L).1 (lastB a s L).2 z.1

theorem sl_on {a z : Pt} {s : Rat} (h : a.1 < z.1) (h2 : z.2 = ln a s z.1) : sl a z = s := by
  unfold sl; rw [h2]; unfold ln
  have : z.1 - a.1 ≠ 0 := by grind
  grind

theorem ln_at (a : Pt) (s : Rat) : ln a s a.1 = a.2 := by unfold ln; grind

theorem ln_move {a b : Pt} {s : Rat} (h : b.2 = ln a s b.1) (x : Rat) : ln b s x = ln a s x := by
  unfold ln at *; rw [h]; grind

theorem ln_sl {a b : Pt} (h : a.1 < b.1) : b.2 = ln a (sl a b) b.1 := by
  unfold ln sl
  have : b.1 - a.1 ≠ 0 := by grind
  grind

/-- the curve through the bends is the function -/
theorem ev_Fn : ∀ (L : List (Pt × Rat)) (a : Pt) (s : Rat) (z : Pt), On a s L → End a s L z → ∀ x, cv (a :: (L.map (·.1) ++ [z])) x = Fn a s L x
  | [], a, s, z, _, he, x => by
    show cv [a, z] x = ln a s x
    unfold cv
    rw [if_pos (.inl rfl), sl_on (a := a) (z := z) (s := s) he.1 he.2]
  | (b, t) :: r, a, s, z, ho, he, x => by
    show cv (a :: b :: (r.map (·.1) ++ [z])) x = _
    unfold cv Fn
    have hne : (r.map (·.1) ++ [z]) ≠ [] := by simp
    rw [sl_on ho.1 ho.2.1, ev_Fn r b t z ho.2.2 he x]
    simp only [hne, false_or]

/-- a list of points as bends -/
def sg : List Pt → List (Pt × Rat)
  | q :: s :: r => (q, sl q s) :: sg (s :: r)
  | _ => []

theorem sg_map : ∀ (r : List Pt) (q : Pt), (sg (q :: r)).map (·.1) ++ [(q :: r).getLast (by simp)] = q :: r
  | [], q => rfl
  | s :: r, q => by
    have ih := sg_map r s
    show q :: ((sg (s :: r)).map (·.1) ++ [(q :: s :: r).getLast (by simp)]) = _
    rw [List.getLast_cons (by simp), ih]

theorem sg_on : ∀ (r : List Pt) (q p : Pt), Asc (p :: q :: r) → On p (sl p q) (sg (q :: r)) ∧ End p (sl p q) (sg (q :: r)) ((q :: r).getLast (by simp))
  | [], q, p, h => by
    have h1 : p.1 < q.1 := by have := (List.pairwise_cons.1 h).1 q (by simp); exact this.1
    exact ⟨trivial, h1, ln_sl h1⟩
  | s :: r, q, p, h => by
    have h' := List.pairwise_cons.1 h
    have h1 : p.1 < q.1 := (h'.1 q (by simp)).1
    obtain ⟨i1, i2⟩ := sg_on r s q h'.2
    refine ⟨⟨h1, ln_sl h1, i1⟩, ?_⟩
    rw [List.getLast_cons (by simp)]
    exact i2

/-- the function of a curve -/
theorem ev_sg (p q : Pt) (r : List Pt) (h : Asc (p :: q :: r)) (x : Rat) : cv (p :: q :: r) x = Fn p (sl p q) (sg (q :: r)) x := by
  obtain ⟨h1, h2⟩ := sg_on r q p h
  have := ev_Fn _ _ _ _ h1 h2 x
  rwa [sg_map] at this

/-- all lines rise -/
def Up (s : Rat) (L : List (Pt × Rat)) : Prop := 0 < s ∧ ∀ b ∈ L, 0 < b.2

theorem sl_pos {p q : Pt} (h1 : p.1 < q.1) (h2 : p.2 < q.2) : 0 < sl p q := by
  unfold sl
  rw [Rat.div_def]
  exact Rat.mul_pos (by grind) (Rat.inv_pos.2 (by grind))

theorem sg_up : ∀ (r : List Pt) (q : Pt), Asc (q :: r) → ∀ b ∈ sg (q :: r), 0 < b.2
  | [], _, _, b, hb => by cases hb
  | s :: r, q, h, b, hb => by
    have h' := List.pairwise_cons.1 h
    rcases List.mem_cons.1 hb with hb | hb
    · rw [hb]; exact sl_pos (h'.1 s (by simp)).1 (h'.1 s (by simp)).2
    · exact sg_up r s h'.2 b hb

theorem up_sg (p q : Pt) (r : List Pt) (h : Asc (p :: q :: r)) : Up (sl p q) (sg (q :: r)) := by
  have h' := List.pairwise_cons.1 h
  exact ⟨sl_pos (h'.1 q (by simp)).1 (h'.1 q (by simp)).2, sg_up r q h'.2⟩

theorem ln_mono {a : Pt} {s x y : Rat} (hs : 0 < s) (h : x < y) : ln a s x < ln a s y := by
  unfold ln
  have : 0 < (y - x) * s := Rat.mul_pos (by grind) hs
  grind

theorem Fn_at : ∀ (L : List (Pt × Rat)) (a : Pt) (s : Rat), On a s L → Fn a s L a.1 = a.2
  | [], a, s, _ => ln_at a s
  | (b, t) :: r, a, s, h => by
    unfold Fn
    rw [if_pos (by have := h.1; grind), ln_at]

theorem Fn_mono : ∀ (L : List (Pt × Rat)) (a : Pt) (s : Rat), On a s L → Up s L → ∀ {x y : Rat}, x < y → Fn a s L x < Fn a s L y
  | [], a, s, _, hu, x, y, h => ln_mono hu.1 h
  | (b, t) :: r, a, s, ho, hu, x, y, h => by
    have hu' : Up t r := ⟨hu.2 (b, t) (by simp), fun c hc => hu.2 c (by simp [hc])⟩
    unfold Fn
    by_cases hy : y ≤ b.1
    · rw [if_pos hy, if_pos (by grind)]; exact ln_mono hu.1 h
    · rw [if_neg hy]
      by_cases hx : x ≤ b.1
      · rw [if_pos hx]
        have h1 := Fn_mono r b t ho.2.2 hu' (x := b.1) (y := y) (by grind)
        rw [Fn_at r b t ho.2.2, ho.2.1] at h1
        by_cases he : x = b.1
        · rw [he]; exact h1
        · have := ln_mono (a := a) hu.1 (show x < b.1 by grind)
          grind
      · rw [if_neg hx]; exact Fn_mono r b t ho.2.2 hu' h

theorem Fn_through : ∀ (L : List (Pt × Rat)) (a : Pt) (s : Rat), On a s L → ∀ b ∈ L, Fn a s L b.1.1 = b.1.2
  | [], _, _, _, _, hb => by cases hb
  | (b, t) :: r, a, s, h, c, hc => by
    unfold Fn
    rcases List.mem_cons.1 hc with hc | hc
    · rw [hc, if_pos (by grind)]; exact h.2.1.symm
    · have : ∀ (r : List (Pt × Rat)) (b : Pt) (t : Rat), On b t r → ∀ c ∈ r, b.1 < c.1.1 := by
        intro r
        induction r with
        | nil => intro b t _ c hc; cases hc
        | cons d r ih =>
          intro b t h c hc
          obtain ⟨d, u⟩ := d
          rcases List.mem_cons.1 hc with hc | hc
          · rw [hc]; exact h.1
          · have := ih d u h.2.2 c hc; have := h.1; grind
      have h1 := this r b t h.2.2 c hc
      rw [if_neg (by grind)]
      exact Fn_through r b t h.2.2 c hc

theorem Fn_end : ∀ (L : List (Pt × Rat)) (a : Pt) (s : Rat) (z : Pt), On a s L → End a s L z → a.1 < z.1 ∧ Fn a s L z.1 = z.2
  | [], a, s, z, _, he => ⟨he.1, he.2.symm⟩
  | (b, t) :: r, a, s, z, ho, he => by
    obtain ⟨h1, h2⟩ := Fn_end r b t z ho.2.2 he
    have := ho.1
    refine ⟨by grind, ?_⟩
    unfold Fn
    rw [if_neg (by grind)]
    exact h2

/-- a curve ascends strictly -/
theorem ev_mono {l : List Pt} (h : Asc l) (hl : 2 ≤ l.length) {x y : Rat} (hxy : x < y) : cv l x < cv l y := by
  match l, hl with
  | p :: q :: r, _ =>
    rw [ev_sg p q r h, ev_sg p q r h]
    exact Fn_mono _ _ _ (sg_on r q p h).1 (up_sg p q r h) hxy

theorem ev_lt {l : List Pt} (h : Asc l) (hl : 2 ≤ l.length) {x y : Rat} : cv l x < cv l y ↔ x < y := by
  refine ⟨fun h1 => ?_, ev_mono h hl⟩
  apply Decidable.byContradiction
  intro hc
  by_cases he : x = y
  · rw [he] at h1; grind
  · have := ev_mono h hl (show y < x by grind); grind

theorem ev_inj {l : List Pt} (h : Asc l) (hl : 2 ≤ l.length) {x y : Rat} : cv l x = cv l y ↔ x = y := by
  refine ⟨fun h1 => ?_, fun h1 => by rw [h1]⟩
  apply Decidable.byContradiction
  intro he
  by_cases hc : x < y
  · have := ev_mono h hl hc; grind
  · have := ev_mono h hl (show y < x by grind); grind

/-- a curve goes through its points -/
theorem ev_through {l : List Pt} (h : Asc l) (hl : 2 ≤ l.length) : ∀ p ∈ l, cv l p.1 = p.2 := by
  match l, hl with
  | p :: q :: r, _ =>
    obtain ⟨h1, h2⟩ := sg_on r q p h
    intro b hb
    rw [ev_sg p q r h]
    rcases List.mem_cons.1 hb with hb | hb
    · rw [hb]; exact Fn_at _ _ _ h1
    · rw [← sg_map r q] at hb
      rcases List.mem_append.1 hb with hb | hb
      · obtain ⟨c, hc, e⟩ := List.mem_map.1 hb
        rw [← e]; exact Fn_through _ _ _ h1 c hc
      · rw [List.mem_singleton.1 hb]; exact (Fn_end _ _ _ _ h1 h2).2

/-- the value by the place of the line -/
theorem ev_at : ∀ (l : List Pt) (i : Nat) (x : Rat) (p q : Pt), Asc l → l[i]? = some p → l[i + 1]? = some q → (i = 0 ∨ p.1 < x) → (i + 2 = l.length ∨ x ≤ q.1) → cv l x = ln p (sl p q) x
  | [], _, _, _, _, _, hp, _, _, _ => by simp at hp
  | [_], _, _, _, _, _, _, hq, _, _ => by simp at hq
  | a :: b :: r, 0, x, p, q, ha, hp, hq, h1, h2 => by
    simp only [List.getElem?_cons_zero, Option.some.injEq] at hp
    simp only [List.getElem?_cons_succ, List.getElem?_cons_zero, Option.some.injEq] at hq
    subst hp; subst hq
    unfold cv
    rw [if_pos]
    rcases h2 with h2 | h2
    · left; simp at h2; exact h2
    · exact .inr h2
  | a :: b :: r, i + 1, x, p, q, ha, hp, hq, h1, h2 => by
    have hp' : (b :: r)[i]? = some p := by simpa using hp
    have hq' : (b :: r)[i + 1]? = some q := by simpa using hq
    have ha' := (List.pairwise_cons.1 ha).2
    have hlen : i + 1 < (b :: r).length := (List.getElem?_eq_some_iff.1 hq').1
    have hpx : p.1 < x := by rcases h1 with h1 | h1; · omega
                             · exact h1
    have hb : b.1 < x := by
      have hm : p ∈ b :: r := List.mem_of_getElem? hp'
      rcases List.mem_cons.1 hm with hm | hm
      · rw [← hm]; exact hpx
      · have := ((List.pairwise_cons.1 ha').1 p hm).1; grind
    have hr : r ≠ [] := by intro h; subst h; simp at hlen
    unfold cv
    rw [if_neg (by rintro (h | h); exact hr h; grind)]
    refine ev_at (b :: r) i x p q ha' hp' hq' (.inr hpx) ?_
    rcases h2 with h2 | h2
    · left; simp at h2 ⊢; omega
    · exact .inr h2

/-! ## the normal form -/

/-- the points where the slope changes -/
def bn : List Pt → List Pt
  | p :: q :: s :: r => if sl q s = sl p q then bn (q :: s :: r) else q :: bn (q :: s :: r)
  | _ => []

def bs : Rat → List (Pt × Rat) → List (Pt × Rat)
  | _, [] => []
  | s, (b, t) :: r => if t = s then bs s r else (b, t) :: bs t r

theorem bn_bs : ∀ (r : List Pt) (q p : Pt), bn (p :: q :: r) = (bs (sl p q) (sg (q :: r))).map (·.1)
  | [], _, _ => rfl
  | s :: r, q, p => by
    have ih := bn_bs r s q
    unfold bn sg bs
    by_cases h : sl q s = sl p q
    · rw [if_pos h, if_pos h, ih, h]
    · rw [if_neg h, if_neg h, ih]; rfl

theorem Fn_move : ∀ (L : List (Pt × Rat)) (a b : Pt) (s : Rat), b.2 = ln a s b.1 → ∀ x, Fn b s L x = Fn a s L x
  | [], a, b, s, h, x => ln_move h x
  | (c, t) :: r, a, b, s, h, x => by unfold Fn; rw [ln_move h x]

theorem On_move {L : List (Pt × Rat)} {a b : Pt} {s : Rat} (h : b.2 = ln a s b.1) (hab : a.1 < b.1) (ho : On b s L) : On a s L := by
  cases L with
  | nil => trivial
  | cons c r =>
    obtain ⟨c, t⟩ := c
    refine ⟨by have := ho.1; grind, ?_, ho.2.2⟩
    rw [ho.2.1, ln_move h]

theorem End_move {L : List (Pt × Rat)} {a b : Pt} {s : Rat} {z : Pt} (h : b.2 = ln a s b.1) (hab : a.1 < b.1) (ho : End b s L z) : End a s L z := by
  cases L with
  | nil => exact ⟨by have := ho.1; show a.1 < z.1; unfold lastB at this; grind, by have := ho.2; unfold lastB at this ⊢; rw [this]; exact ln_move h _⟩
  | cons c r => exact ho

theorem bs_ok : ∀ (L : List (Pt × Rat)) (a : Pt) (s : Rat), On a s L → On a s (bs s L) ∧ (∀ x, Fn a s (bs s L) x = Fn a s L x) ∧ (∀ z, End a s L z → End a s (bs s L) z)
  | [], _, _, _ => ⟨trivial, fun _ => rfl, fun _ h => h⟩
  | (b, t) :: r, a, s, ho => by
    obtain ⟨h1, h2, h3⟩ := ho
    obtain ⟨i1, i2, i3⟩ := bs_ok r b t h3
    unfold bs
    by_cases h : t = s
    · subst h
      rw [if_pos rfl]
      refine ⟨On_move h2 h1 i1, fun x => ?_, fun z hz => End_move h2 h1 (i3 z hz)⟩
      rw [← Fn_move _ a b t h2, i2]
      conv => rhs; unfold Fn
      split
      · rename_i hx
        cases r with
        | nil => exact ln_move h2 x
        | cons c r =>
          obtain ⟨c, u⟩ := c
          unfold Fn
          rw [if_pos (by have := h3.1; grind), ln_move h2]
      · rfl
    · rw [if_neg h]
      refine ⟨⟨h1, h2, i1⟩, fun x => ?_, fun z hz => i3 z hz⟩
      unfold Fn
      rw [i2]

/-- no bend is in vain -/
def Bent : Rat → List (Pt × Rat) → Prop
  | _, [] => True
  | s, (_, t) :: r => t ≠ s ∧ Bent t r

theorem bs_bent : ∀ (L : List (Pt × Rat)) (s : Rat), Bent s (bs s L)
  | [], _ => trivial
  | (b, t) :: r, s => by
    unfold bs
    by_cases h : t = s
    · rw [if_pos h]; exact bs_bent r s
    · rw [if_neg h]; exact ⟨h, bs_bent r t⟩

theorem bn_bent : ∀ (L : List (Pt × Rat)) (a : Pt) (s : Rat) (z : Pt), On a s L → End a s L z → Bent s L → bn (a :: (L.map (·.1) ++ [z])) = L.map (·.1)
  | [], _, _, _, _, _, _ => rfl
  | [(b, t)], a, s, z, ho, he, hb => by
    show bn [a, b, z] = [b]
    unfold bn
    rw [sl_on ho.1 ho.2.1, sl_on (a := b) (z := z) (s := t) he.1 he.2, if_neg hb.1]
    rfl
  | (b, t) :: (c, u) :: r, a, s, z, ho, he, hb => by
    have ih := bn_bent ((c, u) :: r) b t z ho.2.2 he hb.2
    show bn (a :: b :: c :: (r.map (·.1) ++ [z])) = _
    unfold bn
    rw [sl_on ho.1 ho.2.1, sl_on ho.2.2.1 ho.2.2.2.1, if_neg hb.1]
    show b :: bn (b :: ((((c, u) :: r).map (·.1)) ++ [z])) = _
    rw [ih]; rfl

/-- the ends of the normal form -/
def lf (l : List Pt) : Rat := match l with | [] => 0 | a :: _ => a.1 - 1
def rt (l : List Pt) : Rat := match l with | [] => 1 | a :: r => ((a :: r).getLast (by simp)).1 + 1

/-- the normal form -/
def nf (l : List Pt) : List Pt := (lf (bn l), cv l (lf (bn l))) :: (bn l ++ [(rt (bn l), cv l (rt (bn l)))])

theorem lastB_getLast : ∀ (L : List (Pt × Rat)) (a : Pt) (s : Rat) (b : Pt × Rat), (lastB a s (b :: L)).1 = ((b :: L).map (·.1)).getLast (by simp)
  | [], _, _, _ => rfl
  | c :: L, a, s, b => by
    have := lastB_getLast L b.1 b.2 c
    simp only [List.map_cons] at this ⊢
    rw [List.getLast_cons (by simp)]
    exact this

theorem Fn_last : ∀ (L : List (Pt × Rat)) (a : Pt) (s : Rat), On a s L → ∀ x, (lastB a s L).1.1 < x → Fn a s L x = ln (lastB a s L).1 (lastB a s L).2 x
  | [], _, _, _, _, _ => rfl
  | (b, t) :: r, a, s, ho, x, hx => by
    have h2 : ∀ (r : List (Pt × Rat)) (b : Pt) (t : Rat), On b t r → b.1 ≤ (lastB b t r).1.1 := by
      intro r
      induction r with
      | nil => intro b t _; exact Rat.le_refl
      | cons c r ih => intro b t h; obtain ⟨c, u⟩ := c; have := ih c u h.2.2; have := h.1; show b.1 ≤ (lastB c u r).1.1; grind
    have h3 := h2 r b t ho.2.2
    have hx' : (lastB b t r).1.1 < x := hx
    unfold Fn
    rw [if_neg (by grind)]
    exact Fn_last r b t ho.2.2 x hx

theorem lt1 (x : Rat) : x < x + 1 := by grind

/-- what the normal form is: bends with a first point on the first line, and a last one on the last line -/
theorem nf_form {l : List Pt} (h : Asc l) (hl : 2 ≤ l.length) : ∃ (a : Pt) (s : Rat) (L : List (Pt × Rat)) (z : Pt), nf l = a :: (L.map (·.1) ++ [z]) ∧ bn l = L.map (·.1) ∧ On a s L ∧ End a s L z ∧ Bent s L ∧ ∀ x, Fn a s L x = cv l x := by
  match l, hl with
  | p :: q :: r, _ =>
    obtain ⟨h1, h2⟩ := sg_on r q p h
    obtain ⟨i1, i2, i3⟩ := bs_ok _ _ _ h1
    have hb := bs_bent (sg (q :: r)) (sl p q)
    have he := bn_bs r q p
    have hev : ∀ x, cv (p :: q :: r) x = Fn p (sl p q) (bs (sl p q) (sg (q :: r))) x := fun x => by rw [ev_sg p q r h, i2]
    unfold nf
    rw [he]
    generalize bs (sl p q) (sg (q :: r)) = L at *
    generalize sl p q = s at *
    cases L with
    | nil =>
      have e0 : cv (p :: q :: r) 0 = ln p s 0 := hev 0
      have e1 : cv (p :: q :: r) 1 = ln p s 1 := hev 1
      refine ⟨(0, cv (p :: q :: r) 0), s, [], (1, cv (p :: q :: r) 1), rfl, rfl, trivial, ⟨by show (0 : Rat) < 1; decide, ?_⟩, trivial, fun x => ?_⟩
      · show cv (p :: q :: r) 1 = ln (0, cv (p :: q :: r) 0) s 1
        rw [e1]; exact (ln_move e0 1).symm
      · exact (Fn_move [] p (0, cv (p :: q :: r) 0) s e0 x).trans (hev x).symm
    | cons b L =>
      obtain ⟨b, t⟩ := b
      have e0 : cv (p :: q :: r) (b.1 - 1) = ln p s (b.1 - 1) := by rw [hev]; unfold Fn; rw [if_pos (by grind)]
      refine ⟨(b.1 - 1, cv (p :: q :: r) (b.1 - 1)), s, (b, t) :: L, (_, _), rfl, rfl, ⟨by show b.1 - 1 < b.1; grind, ?_, i1.2.2⟩, ?_, hb, fun x => ?_⟩
      · rw [i1.2.1]; exact (ln_move (a := p) (b := (b.1 - 1, cv (p :: q :: r) (b.1 - 1))) e0 b.1).symm
      · have hg := lastB_getLast L p s (b, t)
        have hlt : (lastB p s ((b, t) :: L)).1.1 < rt (((b, t) :: L).map (·.1)) := by
          rw [hg]
          exact lt1 _
        refine ⟨hlt, ?_⟩
        show cv (p :: q :: r) _ = _
        rw [hev]
        exact Fn_last _ _ _ i1 _ hlt
      · exact (Fn_move ((b, t) :: L) p (b.1 - 1, cv (p :: q :: r) (b.1 - 1)) s e0 x).trans (hev x).symm

theorem nf_len {l : List Pt} : 2 ≤ (nf l).length := by unfold nf; simp

/-- the normal form has the same values -/
theorem ev_nf {l : List Pt} (h : Asc l) (hl : 2 ≤ l.length) (x : Rat) : cv (nf l) x = cv l x := by
  obtain ⟨a, s, L, z, h1, h2, h3, h4, h5, h6⟩ := nf_form h hl
  rw [h1, ev_Fn L a s z h3 h4, h6]

theorem bn_nf {l : List Pt} (h : Asc l) (hl : 2 ≤ l.length) : bn (nf l) = bn l := by
  obtain ⟨a, s, L, z, h1, h2, h3, h4, h5, h6⟩ := nf_form h hl
  rw [h1, bn_bent L a s z h3 h4 h5, h2]

theorem nf_nf {l : List Pt} (h : Asc l) (hl : 2 ≤ l.length) : nf (nf l) = nf l := by
  have e := bn_nf h hl
  have key : ∀ m : List Pt, bn m = bn l → (∀ x, cv m x = cv l x) → nf m = nf l := fun m h1 h2 => by unfold nf; rw [h1, h2, h2]
  exact key _ e (ev_nf h hl)

theorem bn_sub : ∀ (l : List Pt), (bn l).Sublist l
  | [] => List.Sublist.refl _
  | [_] => List.nil_sublist _
  | [_, _] => List.nil_sublist _
  | p :: q :: s :: r => by
    have ih := bn_sub (q :: s :: r)
    have it := bn_tl (q :: s :: r)
    unfold bn
    split
    · exact List.Sublist.cons _ ih
    · exact List.Sublist.cons _ (List.Sublist.cons_cons _ it)
where
  bn_tl : ∀ (l : List Pt), (bn l).Sublist l.tail
  | [] => List.Sublist.refl _
  | [_] => List.nil_sublist _
  | [_, _] => List.nil_sublist _
  | p :: q :: s :: r => by
    have it := bn_tl (q :: s :: r)
    unfold bn
    show List.Sublist _ (q :: s :: r)
    split
    · exact List.Sublist.cons _ it
    · exact List.Sublist.cons_cons _ it

theorem getLast_ge {l : List Pt} (h : Asc l) (hne : l ≠ []) : ∀ p ∈ l, p.1 ≤ (l.getLast hne).1 := by
  induction l with
  | nil => exact absurd rfl hne
  | cons a r ih =>
    intro p hp
    cases r with
    | nil => rw [List.mem_singleton.1 hp]; exact Rat.le_refl
    | cons b r =>
      rw [List.getLast_cons (by simp)]
      have h' := List.pairwise_cons.1 h
      rcases List.mem_cons.1 hp with hp | hp
      · have := (h'.1 _ (List.getLast_mem (l := b :: r) (by simp))).1
        rw [hp]; grind
      · exact ih h'.2 (by simp) p hp

/-- the normal form is a curve -/
theorem asc_nf {l : List Pt} (h : Asc l) (hl : 2 ≤ l.length) : Asc (nf l) := by
  have hs := bn_sub l
  have hb : Asc (bn l) := List.Pairwise.sublist hs h
  have hm : ∀ p ∈ bn l, cv l p.1 = p.2 := fun p hp => ev_through h hl p (hs.subset hp)
  unfold nf
  have hlr : lf (bn l) < rt (bn l) := by
    cases hq : bn l with
    | nil => show (0 : Rat) < 1; decide
    | cons a r =>
      rw [hq] at hb
      have := getLast_ge hb (by simp) a (by simp)
      show a.1 - 1 < ((a :: r).getLast (by simp)).1 + 1
      grind
  have h1 : ∀ p ∈ bn l, lf (bn l) < p.1 := by
    cases hq : bn l with
    | nil => intro p hp; cases hp
    | cons a r =>
      rw [hq] at hb
      intro p hp
      show a.1 - 1 < p.1
      rcases List.mem_cons.1 hp with hp | hp
      · rw [hp]; grind
      · have := ((List.pairwise_cons.1 hb).1 p hp).1; grind
  have h2 : ∀ p ∈ bn l, p.1 < rt (bn l) := by
    cases hq : bn l with
    | nil => intro p hp; cases hp
    | cons a r =>
      rw [hq] at hb
      intro p hp
      have := getLast_ge hb (by simp) p hp
      show p.1 < ((a :: r).getLast (by simp)).1 + 1
      grind
  refine List.pairwise_cons.2 ⟨fun p hp => ?_, List.pairwise_append.2 ⟨hb, List.pairwise_singleton _ _, fun p hp z hz => ?_⟩⟩
  · rcases List.mem_append.1 hp with hp | hp
    · have := ev_mono h hl (h1 p hp); rw [hm p hp] at this; exact ⟨h1 p hp, this⟩
    · rw [List.mem_singleton.1 hp]; exact ⟨hlr, ev_mono h hl hlr⟩
  · rw [List.mem_singleton.1 hz]
    have := ev_mono h hl (h2 p hp); rw [hm p hp] at this; exact ⟨h2 p hp, this⟩
end Go.Pure
