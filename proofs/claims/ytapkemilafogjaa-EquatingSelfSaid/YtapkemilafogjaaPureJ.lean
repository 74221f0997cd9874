/- Fractions: core's Rat, with sizes in bits; no program in sight. -/

namespace Go.Pure

/-- the steps of the sum, as the program takes them -/
theorem add_steps (a b : Rat) (g : Nat) (hg : g = a.den.gcd b.den) (s : Int) (hs : s = a.num * ((b.den / g : Nat) : Int) + b.num * ((a.den / g : Nat) : Int)) (c : Nat) (hc : c = s.natAbs.gcd g) :
    (a + b).num = s / (c : Int) ∧ (a + b).den = (a.den / g) * (b.den / c) := by
  have hcg : c ∣ g := hc ▸ Nat.gcd_dvd_right _ _
  have hgb : g ∣ b.den := hg ▸ Nat.gcd_dvd_right _ _
  show (Rat.add a b).num = _ ∧ (Rat.add a b).den = _
  delta Rat.add
  dsimp only
  split
  · rename_i h1
    have hg1 : g = 1 := by rw [hg]; exact h1
    have hc1 : c = 1 := by rw [hg1] at hcg; exact Nat.dvd_one.1 hcg
    subst hc1
    rw [hs, hg1]
    simp
  · simp only [Rat.maybeNormalize_eq, Int.divExact_eq_ediv, ← hg, ← hs, ← hc]
    exact ⟨trivial, Nat.mul_div_assoc _ (Nat.dvd_trans hcg hgb)⟩

theorem mul_steps (a b : Rat) : (a * b).num = a.num.tdiv (a.num.natAbs.gcd b.den : Nat) * b.num.tdiv (b.num.natAbs.gcd a.den : Nat) ∧
    (a * b).den = (a.den / b.num.natAbs.gcd a.den) * (b.den / a.num.natAbs.gcd b.den) := by
  show (Rat.mul a b).num = _ ∧ (Rat.mul a b).den = _
  delta Rat.mul
  simp only [Int.divExact_eq_tdiv, Nat.divExact_eq_div]
  trivial

/-- sizes in bits -/
def Bd (n d : Nat) (r : Rat) : Prop := r.num.natAbs ≤ 2 ^ n ∧ r.den ≤ 2 ^ d

theorem Bd.mono {n d n' d' : Nat} {r : Rat} (h : Bd n d r) (h1 : n ≤ n') (h2 : d ≤ d') : Bd n' d' r :=
  ⟨Nat.le_trans h.1 (Nat.pow_le_pow_right (by omega) h1), Nat.le_trans h.2 (Nat.pow_le_pow_right (by omega) h2)⟩

theorem pow_mul_le {x y n m N : Nat} (hx : x ≤ 2 ^ n) (hy : y ≤ 2 ^ m) (h : n + m ≤ N) : x * y ≤ 2 ^ N :=
  Nat.le_trans (Nat.mul_le_mul hx hy) (by rw [← Nat.pow_add]; exact Nat.pow_le_pow_right (by omega) h)

theorem natAbs_ediv_le (s : Int) (c : Nat) : (s / (c : Int)).natAbs ≤ s.natAbs := by
  by_cases h : c = 0
  · subst h; simp
  · have := Int.natAbs_ediv_le_natAbs s c
    exact this

/-- the sum before it is shortened -/
theorem sum_le (a b : Rat) {n d n' d' N : Nat} (ha : Bd n d a) (hb : Bd n' d' b) (h1 : n + d' + 1 ≤ N) (h2 : n' + d + 1 ≤ N) (g : Nat) :
    a.num.natAbs * (b.den / g) ≤ 2 ^ (N - 1) ∧ b.num.natAbs * (a.den / g) ≤ 2 ^ (N - 1) ∧ (a.num * ((b.den / g : Nat) : Int) + b.num * ((a.den / g : Nat) : Int)).natAbs ≤ 2 ^ N := by
  have e1 : a.num.natAbs * (b.den / g) ≤ 2 ^ (N - 1) := pow_mul_le ha.1 (Nat.le_trans (Nat.div_le_self _ _) hb.2) (by omega)
  have e2 : b.num.natAbs * (a.den / g) ≤ 2 ^ (N - 1) := pow_mul_le hb.1 (Nat.le_trans (Nat.div_le_self _ _) ha.2) (by omega)
  refine ⟨e1, e2, ?_⟩
  have e3 := Int.natAbs_add_le (a.num * ((b.den / g : Nat) : Int)) (b.num * ((a.den / g : Nat) : Int))
  rw [Int.natAbs_mul, Int.natAbs_mul, Int.natAbs_natCast, Int.natAbs_natCast] at e3
  have e4 : 2 ^ N = 2 ^ (N - 1) + 2 ^ (N - 1) := by
    have : N = (N - 1) + 1 := by omega
    conv => lhs; rw [this, Nat.pow_succ]
    omega
  omega

theorem Bd.add {a b : Rat} {n d n' d' N D : Nat} (ha : Bd n d a) (hb : Bd n' d' b) (h1 : n + d' + 1 ≤ N) (h2 : n' + d + 1 ≤ N) (h3 : d + d' ≤ D) : Bd N D (a + b) := by
  obtain ⟨e1, e2⟩ := add_steps a b _ rfl _ rfl _ rfl
  refine ⟨?_, ?_⟩
  · rw [e1]
    exact Nat.le_trans (natAbs_ediv_le _ _) (sum_le a b ha hb h1 h2 _).2.2
  · rw [e2]
    exact pow_mul_le (Nat.le_trans (Nat.div_le_self _ _) ha.2) (Nat.le_trans (Nat.div_le_self _ _) hb.2) h3

theorem Bd.neg {a : Rat} {n d : Nat} (h : Bd n d a) : Bd n d (-a) := ⟨by show (-a.num).natAbs ≤ _; rw [Int.natAbs_neg]; exact h.1, h.2⟩

theorem Bd.sub {a b : Rat} {n d n' d' N D : Nat} (ha : Bd n d a) (hb : Bd n' d' b) (h1 : n + d' + 1 ≤ N) (h2 : n' + d + 1 ≤ N) (h3 : d + d' ≤ D) : Bd N D (a - b) := by
  rw [Rat.sub_eq_add_neg]; exact ha.add hb.neg h1 h2 h3

theorem Bd.mul {a b : Rat} {n d n' d' N D : Nat} (ha : Bd n d a) (hb : Bd n' d' b) (h1 : n + n' ≤ N) (h3 : d + d' ≤ D) : Bd N D (a * b) := by
  obtain ⟨e1, e2⟩ := mul_steps a b
  refine ⟨?_, ?_⟩
  · rw [e1, Int.natAbs_mul, Int.natAbs_tdiv, Int.natAbs_tdiv]
    exact pow_mul_le (Nat.le_trans (Nat.div_le_self _ _) ha.1) (Nat.le_trans (Nat.div_le_self _ _) hb.1) h1
  · rw [e2]
    exact pow_mul_le (Nat.le_trans (Nat.div_le_self _ _) ha.2) (Nat.le_trans (Nat.div_le_self _ _) hb.2) h3

theorem Bd.inv {a : Rat} {n d : Nat} (h : Bd n d a) : Bd d n a⁻¹ := by
  refine ⟨?_, ?_⟩
  · rw [Rat.num_inv, Int.natAbs_mul, Int.natAbs_natCast]
    have h1 : a.num.sign.natAbs ≤ 1 := by
      rw [Int.natAbs_sign]
      split <;> omega
    exact Nat.le_trans (Nat.mul_le_mul h1 h.2) (by omega)
  · rw [Rat.den_inv]
    split
    · exact Nat.one_le_two_pow
    · exact h.1
end Go.Pure

namespace Go.Pure

abbrev Pt := Rat × Rat

/-- the slope between two points -/
def sl (p q : Pt) : Rat := (q.2 - p.2) / (q.1 - p.1)

/-- the line through a point -/
def ln (p : Pt) (s x : Rat) : Rat := p.2 + (x - p.1) * s

/-- the value of a curve -/
def cv : List Pt → Rat → Rat
  | p :: q :: r, x => if r = [] ∨ x ≤ q.1 then ln p (sl p q) x else cv (q :: r) x
  | _, _ => 0

def Asc (l : List Pt) : Prop := l.Pairwise fun p q => p.1 < q.1 ∧ p.2 < q.2

/-- a first line, then bends -/
def Fn : Pt → Rat → List (Pt × Rat) → Rat → Rat
  | a, s, [], x => ln a s x
  | a, s, (b, t) :: r, x => if x ≤ b.1 then ln a s x else Fn b t r x

/-- each bend lies on the line before it -/
def On : Pt → Rat → List (Pt × Rat) → Prop
  | _, _, [] => True
  | a, s, (b, t) :: r => a.1 < b.1 ∧ b.2 = ln a s b.1 ∧ On b t r

/-- the last bend and its line -/
def lastB : Pt → Rat → List (Pt × Rat) → Pt × Rat
  | a, s, [] => (a, s)
  | _, _, (b, t) :: r => lastB b t r

/-- a point on the last line, behind the last bend -/
def End (a : Pt) (s : Rat) (L : List (Pt × Rat)) (z : Pt) : Prop := (lastB a s L).1.1 < z.1 ∧ z.2 = ln (lastB a s L).1 (lastB a s L).2 z.1

theorem sl_on {a z : Pt} {s : Rat} (h : a.1 < z.1) (h2 : z.2 = ln a s z.1) : sl a z = s := by
  unfold sl; rw [h2]; unfold ln
  have : z.1 - a.1 ≠ 0 := by grind
  grind

theorem ln_at (a : Pt) (s : Rat) : ln a s a.1 = a.2 := by unfold ln; grind

theorem ln_move {a b : Pt} {s : Rat} (h : b.2 = ln a s b.1) (x : Rat) : ln b s x = ln a s x := by
  unfold ln at *; rw [h]; grind

theorem ln_sl {a b : Pt} (h : a.1 < b.1) : b.2 = ln a (sl a b) b.1 := by
  unfold ln sl
  have : b.1 - a.1 ≠ 0 := by grind
  grind

/-- the curve through the bends is the function -/
theorem ev_Fn : ∀ (L : List (Pt × Rat)) (a : Pt) (s : Rat) (z : Pt), On a s L → End a s L z → ∀ x, cv (a :: (L.map (·.1) ++ [z])) x = Fn a s L x
  | [], a, s, z, _, he, x => by
    show cv [a, z] x = ln a s x
    unfold cv
    rw [if_pos (.inl rfl), sl_on (a := a) (z := z) (s := s) he.1 he.2]
  | (b, t) :: r, a, s, z, ho, he, x => by
    show cv (a :: b :: (r.map (·.1) ++ [z])) x = _
    unfold cv Fn
    have hne : (r.map (·.1) ++ [z]) ≠ [] := by simp
    rw [sl_on ho.1 ho.2.1, ev_Fn r b t z ho.2.2 he x]
    simp only [hne, false_or]

/-- a list of points as bends -/
def sg : List Pt → List (Pt × Rat)
  | q :: s :: r => (q, sl q s) :: sg (s :: r)
  | _ => []

theorem sg_map : ∀ (r : List Pt) (q : Pt), (sg (q :: r)).map (·.1) ++ [(q :: r).getLast (by simp)] = q :: r
  | [], q => rfl
  | s :: r, q => by
    have ih := sg_map r s
    show q :: ((sg (s :: r)).map (·.1) ++ [(q :: s :: r).getLast (by simp)]) = _
    rw [List.getLast_cons (by simp), ih]

theorem sg_on : ∀ (r : List Pt) (q p : Pt), Asc (p :: q :: r) → On p (sl p q) (sg (q :: r)) ∧ End p (sl p q) (sg (q :: r)) ((q :: r).getLast (by simp))
  | [], q, p, h => by
    have h1 : p.1 < q.1 := by have := (List.pairwise_cons.1 h).1 q (by simp); exact this.1
    exact ⟨trivial, h1, ln_sl h1⟩
  | s :: r, q, p, h => by
    have h' := List.pairwise_cons.1 h
    have h1 : p.1 < q.1 := (h'.1 q (by simp)).1
    obtain ⟨i1, i2⟩ := sg_on r s q h'.2
    refine ⟨⟨h1, ln_sl h1, i1⟩, ?_⟩
    rw [List.getLast_cons (by simp)]
    exact i2

/-- the function of a curve -/
theorem ev_sg (p q : Pt) (r : List Pt) (h : Asc (p :: q :: r)) (x : Rat) : cv (p :: q :: r) x = Fn p (sl p q) (sg (q :: r)) x := by
  obtain ⟨h1, h2⟩ := sg_on r q p h
  have := ev_Fn _ _ _ _ h1 h2 x
  rwa [sg_map] at this

/-- all lines rise -/
def Up (s : Rat) (L : List (Pt × Rat)) : Prop := 0 < s ∧ ∀ b ∈ L, 0 < b.2

theorem sl_pos {p q : Pt} (h1 : p.1 < q.1) (h2 : p.2 < q.2) : 0 < sl p q := by
  unfold sl
  rw [Rat.div_def]
  exact Rat.mul_pos (by grind) (Rat.inv_pos.2 (by grind))

theorem sg_up : ∀ (r : List Pt) (q : Pt), Asc (q :: r) → ∀ b ∈ sg (q :: r), 0 < b.2
  | [], _, _, b, hb => by cases hb
  | s :: r, q, h, b, hb => by
    have h' := List.pairwise_cons.1 h
    rcases List.mem_cons.1 hb with hb | hb
    · rw [hb]; exact sl_pos (h'.1 s (by simp)).1 (h'.1 s (by simp)).2
    · exact sg_up r s h'.2 b hb

theorem up_sg (p q : Pt) (r : List Pt) (h : Asc (p :: q :: r)) : Up (sl p q) (sg (q :: r)) := by
  have h' := List.pairwise_cons.1 h
  exact ⟨sl_pos (h'.1 q (by simp)).1 (h'.1 q (by simp)).2, sg_up r q h'.2⟩

theorem ln_mono {a : Pt} {s x y : Rat} (hs : 0 < s) (h : x < y) : ln a s x < ln a s y := by
  unfold ln
  have : 0 < (y - x) * s := Rat.mul_pos (by grind) hs
  grind

theorem Fn_at : ∀ (L : List (Pt × Rat)) (a : Pt) (s : Rat), On a s L → Fn a s L a.1 = a.2
  | [], a, s, _ => ln_at a s
  | (b, t) :: r, a, s, h => by
    unfold Fn
    rw [if_pos (by have := h.1; grind), ln_at]

theorem Fn_mono : ∀ (L : List (Pt × Rat)) (a : Pt) (s : Rat), On a s L → Up s L → ∀ {x y : Rat}, x < y → Fn a s L x < Fn a s L y
  | [], a, s, _, hu, x, y, h => ln_mono hu.1 h
  | (b, t) :: r, a, s, ho, hu, x, y, h => by
    have hu' : Up t r := ⟨hu.2 (b, t) (by simp), fun c hc => hu.2 c (by simp [hc])⟩
    unfold Fn
    by_cases hy : y ≤ b.1
    · rw [if_pos hy, if_pos (by grind)]; exact ln_mono hu.1 h
    · rw [if_neg hy]
      by_cases hx : x ≤ b.1
      · rw [if_pos hx]
        have h1 := Fn_mono r b t ho.2.2 hu' (x := b.1) (y := y) (by grind)
        rw [Fn_at r b t ho.2.2, ho.2.1] at h1
        by_cases he : x = b.1
        · rw [he]; exact h1
        · have := ln_mono (a := a) hu.1 (show x < b.1 by grind)
          grind
      · rw [if_neg hx]; exact Fn_mono r b t ho.2.2 hu' h

theorem Fn_through : ∀ (L : List (Pt × Rat)) (a : Pt) (s : Rat), On a s L → ∀ b ∈ L, Fn a s L b.1.1 = b.1.2
  | [], _, _, _, _, hb => by cases hb
  | (b, t) :: r, a, s, h, c, hc => by
    unfold Fn
    rcases List.mem_cons.1 hc with hc | hc
    · rw [hc, if_pos (by grind)]; exact h.2.1.symm
    · have : ∀ (r : List (Pt × Rat)) (b : Pt) (t : Rat), On b t r → ∀ c ∈ r, b.1 < c.1.1 := by
        intro r
        induction r with
        | nil => intro b t _ c hc; cases hc
        | cons d r ih =>
          intro b t h c hc
          obtain ⟨d, u⟩ := d
          rcases List.mem_cons.1 hc with hc | hc
          · rw [hc]; exact h.1
          · have := ih d u h.2.2 c hc; have := h.1; grind
      have h1 := this r b t h.2.2 c hc
      rw [if_neg (by grind)]
      exact Fn_through r b t h.2.2 c hc

theorem Fn_end : ∀ (L : List (Pt × Rat)) (a : Pt) (s : Rat) (z : Pt), On a s L → End a s L z → a.1 < z.1 ∧ Fn a s L z.1 = z.2
  | [], a, s, z, _, he => ⟨he.1, he.2.symm⟩
  | (b, t) :: r, a, s, z, ho, he => by
    obtain ⟨h1, h2⟩ := Fn_end r b t z ho.2.2 he
    have := ho.1
    refine ⟨by grind, ?_⟩
    unfold Fn
    rw [if_neg (by grind)]
    exact h2

/-- a curve ascends strictly -/
theorem ev_mono {l : List Pt} (h : Asc l) (hl : 2 ≤ l.length) {x y : Rat} (hxy : x < y) : cv l x < cv l y := by
  match l, hl with
  | p :: q :: r, _ =>
    rw [ev_sg p q r h, ev_sg p q r h]
    exact Fn_mono _ _ _ (sg_on r q p h).1 (up_sg p q r h) hxy

theorem ev_lt {l : List Pt} (h : Asc l) (hl : 2 ≤ l.length) {x y : Rat} : cv l x < cv l y ↔ x < y := by
  refine ⟨fun h1 => ?_, ev_mono h hl⟩
  apply Decidable.byContradiction
  intro hc
  by_cases he : x = y
  · rw [he] at h1; grind
  · have := ev_mono h hl (show y < x by grind); grind

theorem ev_inj {l : List Pt} (h : Asc l) (hl : 2 ≤ l.length) {x y : Rat} : cv l x = cv l y ↔ x = y := by
  refine ⟨fun h1 => ?_, fun h1 => by rw [h1]⟩
  apply Decidable.byContradiction
  intro he
  by_cases hc : x < y
  · have := ev_mono h hl hc; grind
  · have := ev_mono h hl (show y < x by grind); grind

/-- a curve goes through its points -/
theorem ev_through {l : List Pt} (h : Asc l) (hl : 2 ≤ l.length) : ∀ p ∈ l, cv l p.1 = p.2 := by
  match l, hl with
  | p :: q :: r, _ =>
    obtain ⟨h1, h2⟩ := sg_on r q p h
    intro b hb
    rw [ev_sg p q r h]
    rcases List.mem_cons.1 hb with hb | hb
    · rw [hb]; exact Fn_at _ _ _ h1
    · rw [← sg_map r q] at hb
      rcases List.mem_append.1 hb with hb | hb
      · obtain ⟨c, hc, e⟩ := List.mem_map.1 hb
        rw [← e]; exact Fn_through _ _ _ h1 c hc
      · rw [List.mem_singleton.1 hb]; exact (Fn_end _ _ _ _ h1 h2).2

/-- the value by the place of the line -/
theorem ev_at : ∀ (l : List Pt) (i : Nat) (x : Rat) (p q : Pt), Asc l → l[i]? = some p → l[i + 1]? = some q → (i = 0 ∨ p.1 < x) → (i + 2 = l.length ∨ x ≤ q.1) → cv l x = ln p (sl p q) x
  | [], _, _, _, _, _, hp, _, _, _ => by simp at hp
  | [_], _, _, _, _, _, _, hq, _, _ => by simp at hq
  | a :: b :: r, 0, x, p, q, ha, hp, hq, h1, h2 => by
    simp only [List.getElem?_cons_zero, Option.some.injEq] at hp
    simp only [List.getElem?_cons_succ, List.getElem?_cons_zero, Option.some.injEq] at hq
    subst hp; subst hq
    unfold cv
    rw [if_pos]
    rcases h2 with h2 | h2
    · left; simp at h2; exact h2
    · exact .inr h2
  | a :: b :: r, i + 1, x, p, q, ha, hp, hq, h1, h2 => by
    have hp' : (b :: r)[i]? = some p := by simpa using hp
    have hq' : (b :: r)[i + 1]? = some q := by simpa using hq
    have ha' := (List.pairwise_cons.1 ha).2
    have hlen : i + 1 < (b :: r).length := (List.getElem?_eq_some_iff.1 hq').1
    have hpx : p.1 < x := by rcases h1 with h1 | h1; · omega
                             · exact h1
    have hb : b.1 < x := by
      have hm : p ∈ b :: r := List.mem_of_getElem? hp'
      rcases List.mem_cons.1 hm with hm | hm
      · rw [← hm]; exact hpx
      · have := ((List.pairwise_cons.1 ha').1 p hm).1; grind
    have hr : r ≠ [] := by intro h; subst h; simp at hlen
    unfold cv
    rw [if_neg (by rintro (h | h); exact hr h; grind)]
    refine ev_at (b :: r) i x p q ha' hp' hq' (.inr hpx) ?_
    rcases h2 with h2 | h2
    · left; simp at h2 ⊢; omega
    · exact .inr h2

/-! ## the normal form -/

/-- the points where the slope changes -/
def bn : List Pt → List Pt
  | p :: q :: s :: r => if sl q s = sl p q then bn (q :: s :: r) else q :: bn (q :: s :: r)
  | _ => []

def bs : Rat → List (Pt × Rat) → List (Pt × Rat)
  | _, [] => []
  | s, (b, t) :: r => if t = s then bs s r else (b, t) :: bs t r

theorem bn_bs : ∀ (r : List Pt) (q p : Pt), bn (p :: q :: r) = (bs (sl p q) (sg (q :: r))).map (·.1)
  | [], _, _ => rfl
  | s :: r, q, p => by
    have ih := bn_bs r s q
    unfold bn sg bs
    by_cases h : sl q s = sl p q
    · rw [if_pos h, if_pos h, ih, h]
    · rw [if_neg h, if_neg h, ih]; rfl

theorem Fn_move : ∀ (L : List (Pt × Rat)) (a b : Pt) (s : Rat), b.2 = ln a s b.1 → ∀ x, Fn b s L x = Fn a s L x
  | [], a, b, s, h, x => ln_move h x
  | (c, t) :: r, a, b, s, h, x => by unfold Fn; rw [ln_move h x]

theorem On_move {L : List (Pt × Rat)} {a b : Pt} {s : Rat} (h : b.2 = ln a s b.1) (hab : a.1 < b.1) (ho : On b s L) : On a s L := by
  cases L with
  | nil => trivial
  | cons c r =>
    obtain ⟨c, t⟩ := c
    refine ⟨by have := ho.1; grind, ?_, ho.2.2⟩
    rw [ho.2.1, ln_move h]

theorem End_move {L : List (Pt × Rat)} {a b : Pt} {s : Rat} {z : Pt} (h : b.2 = ln a s b.1) (hab : a.1 < b.1) (ho : End b s L z) : End a s L z := by
  cases L with
  | nil => exact ⟨by have := ho.1; show a.1 < z.1; unfold lastB at this; grind, by have := ho.2; unfold lastB at this ⊢; rw [this]; exact ln_move h _⟩
  | cons c r => exact ho

theorem bs_ok : ∀ (L : List (Pt × Rat)) (a : Pt) (s : Rat), On a s L → On a s (bs s L) ∧ (∀ x, Fn a s (bs s L) x = Fn a s L x) ∧ (∀ z, End a s L z → End a s (bs s L) z)
  | [], _, _, _ => ⟨trivial, fun _ => rfl, fun _ h => h⟩
  | (b, t) :: r, a, s, ho => by
    obtain ⟨h1, h2, h3⟩ := ho
    obtain ⟨i1, i2, i3⟩ := bs_ok r b t h3
    unfold bs
    by_cases h : t = s
    · subst h
      rw [if_pos rfl]
      refine ⟨On_move h2 h1 i1, fun x => ?_, fun z hz => End_move h2 h1 (i3 z hz)⟩
      rw [← Fn_move _ a b t h2, i2]
      conv => rhs; unfold Fn
      split
      · rename_i hx
        cases r with
        | nil => exact ln_move h2 x
        | cons c r =>
          obtain ⟨c, u⟩ := c
          unfold Fn
          rw [if_pos (by have := h3.1; grind), ln_move h2]
      · rfl
    · rw [if_neg h]
      refine ⟨⟨h1, h2, i1⟩, fun x => ?_, fun z hz => i3 z hz⟩
      unfold Fn
      rw [i2]

/-- no bend is in vain -/
def Bent : Rat → List (Pt × Rat) → Prop
  | _, [] => True
  | s, (_, t) :: r => t ≠ s ∧ Bent t r

theorem bs_bent : ∀ (L : List (Pt × Rat)) (s : Rat), Bent s (bs s L)
  | [], _ => trivial
  | (b, t) :: r, s => by
    unfold bs
    by_cases h : t = s
    · rw [if_pos h]; exact bs_bent r s
    · rw [if_neg h]; exact ⟨h, bs_bent r t⟩

theorem bn_bent : ∀ (L : List (Pt × Rat)) (a : Pt) (s : Rat) (z : Pt), On a s L → End a s L z → Bent s L → bn (a :: (L.map (·.1) ++ [z])) = L.map (·.1)
  | [], _, _, _, _, _, _ => rfl
  | [(b, t)], a, s, z, ho, he, hb => by
    show bn [a, b, z] = [b]
    unfold bn
    rw [sl_on ho.1 ho.2.1, sl_on (a := b) (z := z) (s := t) he.1 he.2, if_neg hb.1]
    rfl
  | (b, t) :: (c, u) :: r, a, s, z, ho, he, hb => by
    have ih := bn_bent ((c, u) :: r) b t z ho.2.2 he hb.2
    show bn (a :: b :: c :: (r.map (·.1) ++ [z])) = _
    unfold bn
    rw [sl_on ho.1 ho.2.1, sl_on ho.2.2.1 ho.2.2.2.1, if_neg hb.1]
    show b :: bn (b :: ((((c, u) :: r).map (·.1)) ++ [z])) = _
    rw [ih]; rfl

/-- the ends of the normal form -/
def lf (l : List Pt) : Rat := match l with | [] => 0 | a :: _ => a.1 - 1
def rt (l : List Pt) : Rat := match l with | [] => 1 | a :: r => ((a :: r).getLast (by simp)).1 + 1

/-- the normal form -/
def nf (l : List Pt) : List Pt := (lf (bn l), cv l (lf (bn l))) :: (bn l ++ [(rt (bn l), cv l (rt (bn l)))])

theorem lastB_getLast : ∀ (L : List (Pt × Rat)) (a : Pt) (s : Rat) (b : Pt × Rat), (lastB a s (b :: L)).1 = ((b :: L).map (·.1)).getLast (by simp)
  | [], _, _, _ => rfl
  | c :: L, a, s, b => by
    have := lastB_getLast L b.1 b.2 c
    simp only [List.map_cons] at this ⊢
    rw [List.getLast_cons (by simp)]
    exact this

theorem Fn_last : ∀ (L : List (Pt × Rat)) (a : Pt) (s : Rat), On a s L → ∀ x, (lastB a s L).1.1 < x → Fn a s L x = ln (lastB a s L).1 (lastB a s L).2 x
  | [], _, _, _, _, _ => rfl
  | (b, t) :: r, a, s, ho, x, hx => by
    have h2 : ∀ (r : List (Pt × Rat)) (b : Pt) (t : Rat), On b t r → b.1 ≤ (lastB b t r).1.1 := by
      intro r
      induction r with
      | nil => intro b t _; exact Rat.le_refl
      | cons c r ih => intro b t h; obtain ⟨c, u⟩ := c; have := ih c u h.2.2; have := h.1; show b.1 ≤ (lastB c u r).1.1; grind
    have h3 := h2 r b t ho.2.2
    have hx' : (lastB b t r).1.1 < x := hx
    unfold Fn
    rw [if_neg (by grind)]
    exact Fn_last r b t ho.2.2 x hx

theorem lt1 (x : Rat) : x < x + 1 := by grind

/-- what the normal form is: bends with a first point on the first line, and a last one on the last line -/
theorem nf_form {l : List Pt} (h : Asc l) (hl : 2 ≤ l.length) : ∃ (a : Pt) (s : Rat) (L : List (Pt × Rat)) (z : Pt), nf l = a :: (L.map (·.1) ++ [z]) ∧ bn l = L.map (·.1) ∧ On a s L ∧ End a s L z ∧ Bent s L ∧ ∀ x, Fn a s L x = cv l x := by
  match l, hl with
  | p :: q :: r, _ =>
    obtain ⟨h1, h2⟩ := sg_on r q p h
    obtain ⟨i1, i2, i3⟩ := bs_ok _ _ _ h1
    have hb := bs_bent (sg (q :: r)) (sl p q)
    have he := bn_bs r q p
    have hev : ∀ x, cv (p :: q :: r) x = Fn p (sl p q) (bs (sl p q) (sg (q :: r))) x := fun x => by rw [ev_sg p q r h, i2]
    unfold nf
    rw [he]
    generalize bs (sl p q) (sg (q :: r)) = L at *
    generalize sl p q = s at *
    cases L with
    | nil =>
      have e0 : cv (p :: q :: r) 0 = ln p s 0 := hev 0
      have e1 : cv (p :: q :: r) 1 = ln p s 1 := hev 1
      refine ⟨(0, cv (p :: q :: r) 0), s, [], (1, cv (p :: q :: r) 1), rfl, rfl, trivial, ⟨by show (0 : Rat) < 1; decide, ?_⟩, trivial, fun x => ?_⟩
      · show cv (p :: q :: r) 1 = ln (0, cv (p :: q :: r) 0) s 1
        rw [e1]; exact (ln_move e0 1).symm
      · exact (Fn_move [] p (0, cv (p :: q :: r) 0) s e0 x).trans (hev x).symm
    | cons b L =>
      obtain ⟨b, t⟩ := b
      have e0 : cv (p :: q :: r) (b.1 - 1) = ln p s (b.1 - 1) := by rw [hev]; unfold Fn; rw [if_pos (by grind)]
      refine ⟨(b.1 - 1, cv (p :: q :: r) (b.1 - 1)), s, (b, t) :: L, (_, _), rfl, rfl, ⟨by show b.1 - 1 < b.1; grind, ?_, i1.2.2⟩, ?_, hb, fun x => ?_⟩
      · rw [i1.2.1]; exact (ln_move (a := p) (b := (b.1 - 1, cv (p :: q :: r) (b.1 - 1))) e0 b.1).symm
      · have hg := lastB_getLast L p s (b, t)
        have hlt : (lastB p s ((b, t) :: L)).1.1 < rt (((b, t) :: L).map (·.1)) := by
          rw [hg]
          exact lt1 _
        refine ⟨hlt, ?_⟩
        show cv (p :: q :: r) _ = _
        rw [hev]
        exact Fn_last _ _ _ i1 _ hlt
      · exact (Fn_move ((b, t) :: L) p (b.1 - 1, cv (p :: q :: r) (b.1 - 1)) s e0 x).trans (hev x).symm

theorem nf_len {l : List Pt} : 2 ≤ (nf l).length := by unfold nf; simp

/-- the normal form has the same values -/
theorem ev_nf {l : List Pt} (h : Asc l) (hl : 2 ≤ l.length) (x : Rat) : cv (nf l) x = cv l x := by
  obtain ⟨a, s, L, z, h1, h2, h3, h4, h5, h6⟩ := nf_form h hl
  rw [h1, ev_Fn L a s z h3 h4, h6]

theorem bn_nf {l : List Pt} (h : Asc l) (hl : 2 ≤ l.length) : bn (nf l) = bn l := by
  obtain ⟨a, s, L, z, h1, h2, h3, h4, h5, h6⟩ := nf_form h hl
  rw [h1, bn_bent L a s z h3 h4 h5, h2]

theorem nf_nf {l : List Pt} (h : Asc l) (hl : 2 ≤ l.length) : nf (nf l) = nf l := by
  have e := bn_nf h hl
  have key : ∀ m : List Pt, bn m = bn l → (∀ x, cv m x = cv l x) → nf m = nf l := fun m h1 h2 => by unfold nf; rw [h1, h2, h2]
  exact key _ e (ev_nf h hl)

theorem bn_sub : ∀ (l : List Pt), (bn l).Sublist l
  | [] => List.Sublist.refl _
  | [_] => List.nil_sublist _
  | [_, _] => List.nil_sublist _
  | p :: q :: s :: r => by
    have ih := bn_sub (q :: s :: r)
    have it := bn_tl (q :: s :: r)
    unfold bn
    split
    · exact List.Sublist.cons _ ih
    · exact List.Sublist.cons _ (List.Sublist.cons_cons _ it)
where
  bn_tl : ∀ (l : List Pt), (bn l).Sublist l.tail
  | [] => List.Sublist.refl _
  | [_] => List.nil_sublist _
  | [_, _] => List.nil_sublist _
  | p :: q :: s :: r => by
    have it := bn_tl (q :: s :: r)
    unfold bn
    show List.Sublist _ (q :: s :: r)
    split
    · exact List.Sublist.cons _ it
    · exact List.Sublist.cons_cons _ it

theorem getLast_ge {l : List Pt} (h : Asc l) (hne : l ≠ []) : ∀ p ∈ l, p.1 ≤ (l.getLast hne).1 := by
  induction l with
  | nil => exact absurd rfl hne
  | cons a r ih =>
    intro p hp
    cases r with
    | nil => rw [List.mem_singleton.1 hp]; exact Rat.le_refl
    | cons b r =>
      rw [List.getLast_cons (by simp)]
      have h' := List.pairwise_cons.1 h
      rcases List.mem_cons.1 hp with hp | hp
      · have := (h'.1 _ (List.getLast_mem (l := b :: r) (by simp))).1
        rw [hp]; grind
      · exact ih h'.2 (by simp) p hp

/-- the normal form is a curve -/
theorem asc_nf {l : List Pt} (h : Asc l) (hl : 2 ≤ l.length) : Asc (nf l) := by
  have hs := bn_sub l
  have hb : Asc (bn l) := List.Pairwise.sublist hs h
  have hm : ∀ p ∈ bn l, cv l p.1 = p.2 := fun p hp => ev_through h hl p (hs.subset hp)
  unfold nf
  have hlr : lf (bn l) < rt (bn l) := by
    cases hq : bn l with
    | nil => show (0 : Rat) < 1; decide
    | cons a r =>
      rw [hq] at hb
      have := getLast_ge hb (by simp) a (by simp)
      show a.1 - 1 < ((a :: r).getLast (by simp)).1 + 1
      grind
  have h1 : ∀ p ∈ bn l, lf (bn l) < p.1 := by
    cases hq : bn l with
    | nil => intro p hp; cases hp
    | cons a r =>
      rw [hq] at hb
      intro p hp
      show a.1 - 1 < p.1
      rcases List.mem_cons.1 hp with hp | hp
      · rw [hp]; grind
      · have := ((List.pairwise_cons.1 hb).1 p hp).1; grind
  have h2 : ∀ p ∈ bn l, p.1 < rt (bn l) := by
    cases hq : bn l with
    | nil => intro p hp; cases hp
    | cons a r =>
      rw [hq] at hb
      intro p hp
      have := getLast_ge hb (by simp) p hp
      show p.1 < ((a :: r).getLast (by simp)).1 + 1
      grind
  refine List.pairwise_cons.2 ⟨fun p hp => ?_, List.pairwise_append.2 ⟨hb, List.pairwise_singleton _ _, fun p hp z hz => ?_⟩⟩
  · rcases List.mem_append.1 hp with hp | hp
    · have := ev_mono h hl (h1 p hp); rw [hm p hp] at this; exact ⟨h1 p hp, this⟩
    · rw [List.mem_singleton.1 hp]; exact ⟨hlr, ev_mono h hl hlr⟩
  · rw [List.mem_singleton.1 hz]
    have := ev_mono h hl (h2 p hp); rw [hm p hp] at this; exact ⟨h2 p hp, this⟩
end Go.Pure

namespace Go.Pure

/-- a place behind a bend, not behind the next one -/
def aft (c : Pt) : List (Pt × Rat) → Rat
  | [] => c.1 + 1
  | d :: _ => d.1.1

theorem Fn_first {L : List (Pt × Rat)} {c : Pt} {t x : Rat} (h : x ≤ aft c L) : Fn c t L x = ln c t x := by
  cases L with
  | nil => rfl
  | cons d L => obtain ⟨d, u⟩ := d; unfold Fn; exact if_pos h

theorem aft_gt {L : List (Pt × Rat)} {c : Pt} {t : Rat} (h : On c t L) : c.1 < aft c L := by
  cases L with
  | nil => unfold aft; grind
  | cons d L => exact h.1

theorem line_eq {a b : Pt} {s t x y : Rat} (hxy : x < y) (h1 : ln a s x = ln b t x) (h2 : ln a s y = ln b t y) : s = t ∧ ∀ z, ln a s z = ln b t z := by
  unfold ln at *
  have h3 : (y - x) * (s - t) = 0 := by grind
  have h4 : s = t := by
    have h5 : y - x ≠ 0 := by grind
    have := Rat.mul_eq_zero.1 h3
    grind
  subst h4
  exact ⟨rfl, fun z => by grind⟩

theorem slope_clash {b c : Pt} {s t x : Rat} (hc : c.2 = ln b s c.1) (hx : c.1 < x) (h : ln c t x = ln b s x) : t = s := by
  rw [← ln_move hc] at h
  unfold ln at h
  have h3 : (x - c.1) * (t - s) = 0 := by grind
  have := Rat.mul_eq_zero.1 h3
  grind

theorem uniq : ∀ (L M : List (Pt × Rat)) (a : Pt) (s : Rat) (b : Pt) (t z : Rat), On a s L → Bent s L → On b t M → Bent t M → (∀ c ∈ L, z < c.1.1) → (∀ c ∈ M, z < c.1.1) → (∀ x, z < x → Fn a s L x = Fn b t M x) → L = M ∧ s = t
  | [], [], a, s, b, t, z, _, _, _, _, _, _, h => by
    have h1 := h (z + 1) (by grind)
    have h2 := h (z + 2) (by grind)
    exact ⟨rfl, (line_eq (show z + 1 < z + 2 by grind) h1 h2).1⟩
  | [], (c, u) :: M, a, s, b, t, z, _, _, hm, bm, _, zm, h => by
    have hz := zm (c, u) (by simp)
    dsimp only at hz
    have h1 := h ((z + c.1) / 2) (by grind)
    have h2 := h c.1 hz
    rw [show Fn b t ((c, u) :: M) ((z + c.1) / 2) = ln b t ((z + c.1) / 2) by unfold Fn; rw [if_pos (by grind)]] at h1
    rw [show Fn b t ((c, u) :: M) c.1 = ln b t c.1 by unfold Fn; rw [if_pos (by grind)]] at h2
    obtain ⟨e1, e2⟩ := line_eq (show (z + c.1) / 2 < c.1 by grind) h1 h2
    have hg := aft_gt hm.2.2
    have h3 := h (aft c M) (by grind)
    rw [show Fn b t ((c, u) :: M) (aft c M) = ln c u (aft c M) by unfold Fn; rw [if_neg (by grind)]; exact Fn_first (by grind)] at h3
    have h4 : ln a s (aft c M) = ln c u (aft c M) := h3
    rw [e2] at h4
    exact absurd (slope_clash hm.2.1 hg h4.symm) bm.1
  | (c, u) :: L, [], a, s, b, t, z, hl, bl, hm, bm, zl, zm, h => by
    have := uniq [] ((c, u) :: L) b t a s z hm bm hl bl zm zl (fun x hx => (h x hx).symm)
    exact absurd this.1 (by simp)
  | (c, u) :: L, (d, v) :: M, a, s, b, t, z, hl, bl, hm, bm, zl, zm, h => by
    have zc := zl (c, u) (by simp)
    have zd := zm (d, v) (by simp)
    dsimp only at zc zd
    have key : ∀ x, z < x → x ≤ c.1 → x ≤ d.1 → ln a s x = ln b t x := fun x hx h1 h2 => by
      have := h x hx
      unfold Fn at this
      rwa [if_pos h1, if_pos h2] at this
    have hlines : s = t ∧ ∀ x, ln a s x = ln b t x := by
      by_cases hcd : c.1 ≤ d.1
      · exact line_eq (show (z + c.1) / 2 < c.1 by grind) (key _ (by grind) (by grind) (by grind)) (key _ (by grind) (by grind) (by grind))
      · exact line_eq (show (z + d.1) / 2 < d.1 by grind) (key _ (by grind) (by grind) (by grind)) (key _ (by grind) (by grind) (by grind))
    obtain ⟨e1, e2⟩ := hlines
    have gc := aft_gt hl.2.2
    have gd := aft_gt hm.2.2
    have nclash : ∀ (L M : List (Pt × Rat)) (a b c d : Pt) (s t u v : Rat), On c u L → c.2 = ln a s c.1 → (∀ x, ln a s x = ln b t x) → u ≠ s → s = t → c.1 < d.1 → (∀ x, c.1 < x → Fn a s ((c, u) :: L) x = Fn b t ((d, v) :: M) x) → False := by
      intro L M a b c d s t u v ho hc e2 hu hst hlt h
      have g := aft_gt ho
      by_cases hle : aft c L ≤ d.1
      · have h1 := h (aft c L) g
        unfold Fn at h1
        rw [if_neg (by grind), if_pos hle, Fn_first (by grind), ← e2] at h1
        exact hu (slope_clash hc g h1)
      · have h1 := h d.1 hlt
        unfold Fn at h1
        rw [if_neg (by grind), if_pos (by grind), Fn_first (by grind), ← e2] at h1
        exact hu (slope_clash hc hlt h1)
    by_cases hcd : c.1 = d.1
    · have hcd2 : c.2 = d.2 := by rw [hl.2.1, hm.2.1, e2, hcd]
      have hce : c = d := Prod.ext hcd hcd2
      subst hce
      have hL : ∀ (r : List (Pt × Rat)) (b : Pt) (t : Rat), On b t r → ∀ c ∈ r, b.1 < c.1.1 := by
        intro r
        induction r with
        | nil => intro b t _ c hc; cases hc
        | cons d r ih =>
          intro b t h c hc
          obtain ⟨d, u⟩ := d
          rcases List.mem_cons.1 hc with hc | hc
          · rw [hc]; exact h.1
          · have := ih d u h.2.2 c hc; have := h.1; grind
      have := uniq L M c u c v c.1 hl.2.2 bl.2 hm.2.2 bm.2 (hL L c u hl.2.2) (hL M c v hm.2.2) (fun x hx => by
        have := h x (by grind)
        unfold Fn at this
        rwa [if_neg (by grind), if_neg (by grind)] at this)
      rw [this.1, this.2]
      exact ⟨rfl, e1⟩
    · exfalso
      by_cases hlt : c.1 < d.1
      · exact nclash L M a b c d s t u v hl.2.2 hl.2.1 e2 bl.1 e1 hlt (fun x hx => h x (by grind))
      · exact nclash M L b a d c t s v u hm.2.2 hm.2.1 (fun x => (e2 x).symm) bm.1 e1.symm (by grind) (fun x hx => (h x (by grind)).symm)

theorem On_lt : ∀ (r : List (Pt × Rat)) (b : Pt) (t : Rat), On b t r → ∀ c ∈ r, b.1 < c.1.1
  | [], _, _, _, c, hc => by cases hc
  | (d, u) :: r, b, t, h, c, hc => by
    rcases List.mem_cons.1 hc with hc | hc
    · rw [hc]; exact h.1
    · have := On_lt r d u h.2.2 c hc; have := h.1; grind

/-- curves with the same values have the same normal form -/
theorem canon {l m : List Pt} (hl : Asc l) (hl2 : 2 ≤ l.length) (hm : Asc m) (hm2 : 2 ≤ m.length) (h : ∀ x, cv l x = cv m x) : nf l = nf m := by
  obtain ⟨a, s, L, y, -, b1, o1, -, t1, f1⟩ := nf_form hl hl2
  obtain ⟨b, t, M, z, -, b2, o2, -, t2, f2⟩ := nf_form hm hm2
  have hh : ∀ x, Fn a s L x = Fn b t M x := fun x => by rw [f1, f2, h]
  have := uniq L M a s b t (min a.1 b.1) o1 t1 o2 t2 (fun c hc => by have := On_lt L a s o1 c hc; grind) (fun c hc => by have := On_lt M b t o2 c hc; grind) (fun x _ => hh x)
  have e : bn l = bn m := by rw [b1, b2, this.1]
  unfold nf
  rw [e, h, h]

/-- where a place lies -/
theorem seg : ∀ (l : List Pt) (x : Rat), 2 ≤ l.length → ∃ (i : Nat) (p q : Pt), l[i]? = some p ∧ l[i + 1]? = some q ∧ (i = 0 ∨ p.1 < x) ∧ (i + 2 = l.length ∨ x ≤ q.1)
  | [], _, h => by simp at h
  | [_], _, h => by simp at h
  | [p, q], x, _ => ⟨0, p, q, rfl, rfl, .inl rfl, .inl rfl⟩
  | p :: q :: r :: l, x, _ => by
    by_cases h : x ≤ q.1
    · exact ⟨0, p, q, rfl, rfl, .inl rfl, .inr h⟩
    · obtain ⟨i, a, b, h1, h2, h3, h4⟩ := seg (q :: r :: l) x (by simp)
      refine ⟨i + 1, a, b, by simpa using h1, by simpa using h2, .inr ?_, ?_⟩
      · rcases h3 with h3 | h3
        · subst h3; simp at h1; rw [← h1]; grind
        · exact h3
      · rcases h4 with h4 | h4
        · left; simp at h4 ⊢; omega
        · exact .inr h4

def ex (l : List Pt) : List Pt := l.map fun p => (p.2, p.1)

theorem ex_asc {l : List Pt} (h : Asc l) : Asc (ex l) := by
  unfold Asc ex
  rw [List.pairwise_map, List.pairwise_iff_getElem]
  intro i j hi hj hij
  have hpq := List.pairwise_iff_getElem.1 h i j hi hj hij
  exact ⟨hpq.2, hpq.1⟩

theorem ex_len (l : List Pt) : (ex l).length = l.length := by simp [ex]

theorem ex_ex (l : List Pt) : ex (ex l) = l := by
  unfold ex
  rw [List.map_map]
  exact List.map_id _

theorem pair_asc {l : List Pt} (h : Asc l) {i : Nat} {p q : Pt} (hp : l[i]? = some p) (hq : l[i + 1]? = some q) : p.1 < q.1 ∧ p.2 < q.2 := by
  obtain ⟨h1, e1⟩ := List.getElem?_eq_some_iff.1 hp
  obtain ⟨h2, e2⟩ := List.getElem?_eq_some_iff.1 hq
  have := List.pairwise_iff_getElem.1 h i (i + 1) h1 h2 (by omega)
  rw [e1, e2] at this
  exact this

theorem ln_lt {a : Pt} {s x y : Rat} (hs : 0 < s) : ln a s x < ln a s y ↔ x < y := by
  refine ⟨fun h => ?_, ln_mono hs⟩
  apply Decidable.byContradiction
  intro hc
  by_cases he : x = y
  · rw [he] at h; grind
  · have := ln_mono (a := a) hs (show y < x by grind); grind

/-- the exchanged curve leads back -/
theorem ex_back {l : List Pt} (h : Asc l) (hl : 2 ≤ l.length) (x : Rat) : cv (ex l) (cv l x) = x := by
  obtain ⟨i, p, q, hp, hq, h1, h2⟩ := seg l x hl
  have hv := ev_at l i x p q h hp hq h1 h2
  obtain ⟨a1, a2⟩ := pair_asc h hp hq
  have hs := sl_pos a1 a2
  have hp' : (ex l)[i]? = some (p.2, p.1) := by unfold ex; rw [List.getElem?_map, hp]; rfl
  have hq' : (ex l)[i + 1]? = some (q.2, q.1) := by unfold ex; rw [List.getElem?_map, hq]; rfl
  have e1 : ln p (sl p q) p.1 = p.2 := ln_at p _
  have e2 : ln p (sl p q) q.1 = q.2 := (ln_sl a1).symm
  rw [hv, ev_at (ex l) i _ (p.2, p.1) (q.2, q.1) (ex_asc h) hp' hq' (by
    rcases h1 with h1 | h1
    · exact .inl h1
    · right; dsimp only; rw [← e1]; exact ln_mono hs h1) (by
    rcases h2 with h2 | h2
    · left; rw [ex_len]; exact h2
    · right; dsimp only; rw [← e2]
      apply Rat.not_lt.1
      intro hc
      have := (ln_lt hs).1 hc
      grind)]
  unfold ln sl
  dsimp only
  have n1 : q.1 - p.1 ≠ 0 := by grind
  have n2 : q.2 - p.2 ≠ 0 := by grind
  grind

theorem ex_forth {l : List Pt} (h : Asc l) (hl : 2 ≤ l.length) (y : Rat) : cv l (cv (ex l) y) = y := by
  have := ex_back (ex_asc h) (by rw [ex_len]; exact hl) y
  rwa [ex_ex] at this

/-- the inverse of a line -/
theorem cv_two (p q : Pt) (x : Rat) : cv [p, q] x = ln p (sl p q) x := by unfold cv; rw [if_pos (.inl rfl)]
end Go.Pure

namespace Go.Pure
set_option linter.unusedVariables false

/-- a slope of a curve -/
def IsSl (l : List Pt) (t : Rat) : Prop := ∃ (c : Nat) (p q : Pt), l[c]? = some p ∧ l[c + 1]? = some q ∧ t = sl p q

theorem sg_sl : ∀ (r : List Pt) (q : Pt), ∀ b ∈ sg (q :: r), IsSl (q :: r) b.2
  | [], q, b, hb => by cases hb
  | s :: r, q, b, hb => by
    rcases List.mem_cons.1 hb with hb | hb
    · rw [hb]; exact ⟨0, q, s, rfl, rfl, rfl⟩
    · obtain ⟨c, p, q', h1, h2, h3⟩ := sg_sl r s b hb
      exact ⟨c + 1, p, q', by simpa using h1, by simpa using h2, h3⟩

theorem bs_sub : ∀ (L : List (Pt × Rat)) (s : Rat), ∀ b ∈ bs s L, b ∈ L
  | [], _, b, hb => by cases hb
  | (c, t) :: r, s, b, hb => by
    unfold bs at hb
    split at hb
    · exact List.mem_cons_of_mem _ (bs_sub r s b hb)
    · rcases List.mem_cons.1 hb with hb | hb
      · rw [hb]; exact List.mem_cons_self
      · exact List.mem_cons_of_mem _ (bs_sub r t b hb)

/-- the normal form: bends, a first point on the first line, a last one on the last line, with their lines -/
theorem nf_form2 {l : List Pt} (h : Asc l) (hl : 2 ≤ l.length) : ∃ (a : Pt) (s : Rat) (L : List (Pt × Rat)) (z : Pt), nf l = a :: (L.map (·.1) ++ [z]) ∧ bn l = L.map (·.1) ∧ On a s L ∧ End a s L z ∧ IsSl l s ∧ (∀ b ∈ L, IsSl l b.2) ∧ a.1 = lf (bn l) ∧ z.1 = rt (bn l) ∧
    (L = [] → ∃ p, l.head? = some p ∧ a.2 = ln p s 0 ∧ z.2 = ln p s 1) := by
  match l, hl with
  | p :: q :: r, _ =>
    obtain ⟨h1, h2⟩ := sg_on r q p h
    obtain ⟨i1, i2, i3⟩ := bs_ok _ _ _ h1
    have he := bn_bs r q p
    have hev : ∀ x, cv (p :: q :: r) x = Fn p (sl p q) (bs (sl p q) (sg (q :: r))) x := fun x => by rw [ev_sg p q r h, i2]
    have hs : IsSl (p :: q :: r) (sl p q) := ⟨0, p, q, rfl, rfl, rfl⟩
    have hL : ∀ b ∈ bs (sl p q) (sg (q :: r)), IsSl (p :: q :: r) b.2 := fun b hb => by
      obtain ⟨c, p', q', g1, g2, g3⟩ := sg_sl r q b (bs_sub _ _ b hb)
      exact ⟨c + 1, p', q', by simpa using g1, by simpa using g2, g3⟩
    unfold nf
    rw [he]
    generalize bs (sl p q) (sg (q :: r)) = L at *
    generalize sl p q = s at *
    cases L with
    | nil =>
      have e0 : cv (p :: q :: r) 0 = ln p s 0 := hev 0
      have e1 : cv (p :: q :: r) 1 = ln p s 1 := hev 1
      refine ⟨(0, cv (p :: q :: r) 0), s, [], (1, cv (p :: q :: r) 1), rfl, rfl, trivial, ⟨by show (0 : Rat) < 1; decide, ?_⟩, hs, by simp, rfl, rfl, fun _ => ⟨p, rfl, e0, e1⟩⟩
      show cv (p :: q :: r) 1 = ln (0, cv (p :: q :: r) 0) s 1
      rw [e1]; exact (ln_move (b := (0, cv (p :: q :: r) 0)) e0 1).symm
    | cons b L =>
      obtain ⟨b, t⟩ := b
      have e0 : cv (p :: q :: r) (b.1 - 1) = ln p s (b.1 - 1) := by rw [hev]; unfold Fn; rw [if_pos (by grind)]
      refine ⟨(b.1 - 1, cv (p :: q :: r) (b.1 - 1)), s, (b, t) :: L, (_, _), rfl, rfl, ⟨by show b.1 - 1 < b.1; grind, ?_, i1.2.2⟩, ?_, hs, hL, rfl, rfl, by simp⟩
      · rw [i1.2.1]; exact (ln_move (a := p) (b := (b.1 - 1, cv (p :: q :: r) (b.1 - 1))) e0 b.1).symm
      · have hg := lastB_getLast L p s (b, t)
        have hlt : (lastB p s ((b, t) :: L)).1.1 < rt (((b, t) :: L).map (·.1)) := by
          rw [hg]
          exact lt1 _
        refine ⟨hlt, ?_⟩
        show cv (p :: q :: r) _ = _
        rw [hev]
        exact Fn_last _ _ _ i1 _ hlt

theorem form_slopes : ∀ (L : List (Pt × Rat)) (a : Pt) (s : Rat) (z : Pt), On a s L → End a s L z → ∀ (c : Nat) (p q : Pt), (a :: (L.map (·.1) ++ [z]))[c]? = some p → (a :: (L.map (·.1) ++ [z]))[c + 1]? = some q → sl p q = s ∨ ∃ b ∈ L, sl p q = b.2
  | [], a, s, z, ho, he, c, p, q, hp, hq => by
    cases c with
    | zero =>
      simp at hp hq
      rw [← hp, ← hq]
      exact .inl (sl_on (a := a) (z := z) (s := s) he.1 he.2)
    | succ c => simp at hq
  | (b, t) :: r, a, s, z, ho, he, c, p, q, hp, hq => by
    cases c with
    | zero =>
      simp at hp hq
      rw [← hp, ← hq]
      exact .inl (sl_on ho.1 ho.2.1)
    | succ c =>
      have hp' : (b :: (r.map (·.1) ++ [z]))[c]? = some p := by simpa using hp
      have hq' : (b :: (r.map (·.1) ++ [z]))[c + 1]? = some q := by simpa using hq
      rcases form_slopes r b t z ho.2.2 he c p q hp' hq' with h | ⟨d, hd, h⟩
      · exact .inr ⟨(b, t), List.mem_cons_self, h⟩
      · exact .inr ⟨d, List.mem_cons_of_mem _ hd, h⟩

/-- the slopes of the normal form are slopes of the curve -/
theorem nf_sl {l : List Pt} (h : Asc l) (hl : 2 ≤ l.length) {c : Nat} {p q : Pt} (hp : (nf l)[c]? = some p) (hq : (nf l)[c + 1]? = some q) : IsSl l (sl p q) := by
  obtain ⟨a, s, L, z, h1, h2, h3, h4, h5, h6, -⟩ := nf_form2 h hl
  rw [h1] at hp hq
  rcases form_slopes L a s z h3 h4 c p q hp hq with e | ⟨b, hb, e⟩
  · rw [e]; exact h5
  · rw [e]; exact h6 b hb

theorem lastB_mem : ∀ (L : List (Pt × Rat)) (a : Pt) (s : Rat) (b : Pt × Rat), lastB a s (b :: L) ∈ b :: L
  | [], _, _, _ => List.mem_cons_self
  | c :: L, a, s, b => List.mem_cons_of_mem _ (lastB_mem L b.1 b.2 c)

/-- the points of the normal form -/
theorem nf_pts {l : List Pt} (h : Asc l) (hl : 2 ≤ l.length) : ∀ p ∈ nf l, p ∈ bn l ∨ (∃ c ∈ bn l, ∃ t, IsSl l t ∧ (p = (c.1 - 1, c.2 - t) ∨ p = (c.1 + 1, c.2 + t))) ∨ (∃ c, l.head? = some c ∧ ∃ t, IsSl l t ∧ (p = (0, ln c t 0) ∨ p = (1, ln c t 1))) := by
  obtain ⟨a, s, L, z, h1, h2, h3, h4, h5, h6, h7, h8, h9⟩ := nf_form2 h hl
  intro p hp
  rw [h1] at hp
  cases L with
  | nil =>
    obtain ⟨c, hc, e1, e2⟩ := h9 rfl
    have e3 : bn l = [] := by rw [h2]; rfl
    rw [e3] at h7 h8
    right; right
    refine ⟨c, hc, s, h5, ?_⟩
    simp at hp
    rcases hp with hp | hp
    · left; rw [hp]; exact Prod.ext h7 e1
    · right; rw [hp]; exact Prod.ext h8 e2
  | cons b L =>
    obtain ⟨b, t⟩ := b
    have hb : b ∈ bn l := by rw [h2]; simp
    rcases List.mem_cons.1 hp with hp | hp
    · right; left
      refine ⟨b, hb, s, h5, .inl ?_⟩
      have e1 : a.1 = b.1 - 1 := by rw [h7, h2]; rfl
      have e2 : b.2 = ln a s b.1 := h3.2.1
      rw [hp]
      refine Prod.ext e1 ?_
      unfold ln at e2
      rw [e1] at e2
      dsimp only
      grind
    · rcases List.mem_append.1 hp with hp | hp
      · left; rw [h2]; exact hp
      · right; left
        rw [List.mem_singleton] at hp
        have hm := lastB_mem L a s (b, t)
        refine ⟨(lastB a s ((b, t) :: L)).1, ?_, (lastB a s ((b, t) :: L)).2, h6 _ hm, .inr ?_⟩
        · rw [h2]; exact List.mem_map.2 ⟨_, hm, rfl⟩
        · have hg := lastB_getLast L a s (b, t)
          have e1 : z.1 = (lastB a s ((b, t) :: L)).1.1 + 1 := by
            rw [h8, h2, hg]; rfl
          have e2 := h4.2
          rw [hp]
          refine Prod.ext e1 ?_
          unfold ln at e2
          rw [e2]
          dsimp only
          rw [e1]
          grind

/-- curves with the same values bend at the same points -/
theorem canon_bn {l m : List Pt} (hl : Asc l) (hl2 : 2 ≤ l.length) (hm : Asc m) (hm2 : 2 ≤ m.length) (h : ∀ x, cv l x = cv m x) : bn l = bn m := by
  obtain ⟨a, s, L, y, -, b1, o1, -, t1, f1⟩ := nf_form hl hl2
  obtain ⟨b, t, M, z, -, b2, o2, -, t2, f2⟩ := nf_form hm hm2
  have hh : ∀ x, Fn a s L x = Fn b t M x := fun x => by rw [f1, f2, h]
  have := uniq L M a s b t (min a.1 b.1) o1 t1 o2 t2 (fun c hc => by have := On_lt L a s o1 c hc; grind) (fun c hc => by have := On_lt M b t o2 c hc; grind) (fun x _ => hh x)
  rw [b1, b2, this.1]

/-- slopes of the exchanged curve -/
theorem ex_sl {l : List Pt} {t : Rat} (h : IsSl (ex l) t) : ∃ s, IsSl l s ∧ t = s⁻¹ := by
  obtain ⟨c, p, q, h1, h2, h3⟩ := h
  unfold ex at h1 h2
  rw [List.getElem?_map] at h1 h2
  obtain ⟨p', e1, rfl⟩ := Option.map_eq_some_iff.1 h1
  obtain ⟨q', e2, rfl⟩ := Option.map_eq_some_iff.1 h2
  refine ⟨sl p' q', ⟨c, p', q', e1, e2, rfl⟩, ?_⟩
  rw [h3]
  unfold sl
  dsimp only
  rw [Rat.div_def, Rat.div_def, Rat.inv_mul_rev, Rat.inv_inv]
end Go.Pure

namespace Go.Pure
set_option linter.unusedVariables false

/-- places of points that are neither first nor last -/
def Inner (l : List Pt) (y : Rat) : Prop := ∃ (i : Nat) (p : Pt), 1 ≤ i ∧ i + 1 < l.length ∧ l[i]? = some p ∧ p.1 = y

theorem ev_at' {l : List Pt} {i : Nat} {x : Rat} {p q : Pt} (h : Asc l) (hl : 2 ≤ l.length) (hp : l[i]? = some p) (hq : l[i + 1]? = some q) (h1 : i = 0 ∨ p.1 ≤ x) (h2 : i + 2 = l.length ∨ x ≤ q.1) : cv l x = ln p (sl p q) x := by
  by_cases he : x = p.1
  · rw [he, ev_through h hl p (List.mem_of_getElem? hp), ln_at]
  · refine ev_at l i x p q h hp hq ?_ h2
    rcases h1 with h1 | h1
    · exact .inl h1
    · exact .inr (by grind)

/-- between two places without a bend, a curve is a line -/
theorem flat {l : List Pt} (h : Asc l) (hl : 2 ≤ l.length) {u v : Rat} (huv : u < v) (hn : ∀ y, Inner l y → ¬ (u < y ∧ y < v)) : ∃ (p : Pt) (s : Rat), 0 < s ∧ ∀ x, u ≤ x → x ≤ v → cv l x = ln p s x := by
  obtain ⟨i, p, q, hp, hq, h1, h2⟩ := seg l ((u + v) / 2) hl
  have hlen : i + 1 < l.length := (List.getElem?_eq_some_iff.1 hq).1
  obtain ⟨a1, a2⟩ := pair_asc h hp hq
  refine ⟨p, sl p q, sl_pos a1 a2, fun x hx1 hx2 => ev_at' h hl hp hq ?_ ?_⟩
  · rcases h1 with h1 | h1
    · exact .inl h1
    · by_cases h0 : i = 0
      · exact .inl h0
      · right
        have := hn p.1 ⟨i, p, by omega, hlen, hp, rfl⟩
        grind
  · by_cases hz : i + 2 = l.length
    · exact .inl hz
    · right
      have := hn q.1 ⟨i + 1, q, by omega, by omega, hq, rfl⟩
      rcases h2 with h2 | h2
      · exact absurd h2 hz
      · grind

theorem ln_comp (p q : Pt) (s t x : Rat) : ∃ r : Pt, ∀ x, ln q t (ln p s x) = ln r (t * s) x := by
  refine ⟨(p.1, ln q t p.2), fun x => ?_⟩
  unfold ln
  dsimp only
  grind

theorem two_line {r : Pt} {s a b x : Rat} (hab : a < b) : ln r s x = ln (a, ln r s a) (sl (a, ln r s a) (b, ln r s b)) x := by
  have h1 : sl (a, ln r s a) (b, ln r s b) = s := by
    unfold sl ln
    dsimp only
    have : b - a ≠ 0 := by grind
    grind
  rw [h1]
  unfold ln
  dsimp only
  grind

theorem inner_ge_head {l : List Pt} (h : Asc l) {y : Rat} (hy : Inner l y) : ∃ p, l.head? = some p ∧ p.1 < y := by
  obtain ⟨i, p, h1, h2, h3, h4⟩ := hy
  cases l with
  | nil => simp at h2
  | cons a r =>
    refine ⟨a, rfl, ?_⟩
    have hm : p ∈ r := by
      obtain ⟨j, rfl⟩ : ∃ j, i = j + 1 := ⟨i - 1, by omega⟩
      rw [List.getElem?_cons_succ] at h3
      exact List.mem_of_getElem? h3
    have := ((List.pairwise_cons.1 h).1 p hm).1
    rw [← h4]; exact this

theorem inner_le_last {l : List Pt} (h : Asc l) {y : Rat} (hy : Inner l y) : ∃ p, p ∈ l ∧ y < p.1 := by
  obtain ⟨i, p, h1, h2, h3, h4⟩ := hy
  have hq : l[i + 1]? = some l[i + 1] := List.getElem?_eq_getElem h2
  refine ⟨l[i + 1], List.getElem_mem h2, ?_⟩
  rw [← h4]; exact (pair_asc h h3 hq).1

theorem inner_mem {l : List Pt} {y : Rat} (hy : Inner l y) : ∃ p ∈ l, p.1 = y := by
  obtain ⟨i, p, h1, h2, h3, h4⟩ := hy
  exact ⟨p, List.mem_of_getElem? h3, h4⟩

/-- the points of one curve after the other -/
def cps (f g : List Pt) (xs : List Rat) : List Pt := xs.map fun x => (x, cv g (cv f x))

section
variable {f g : List Pt} {xs : List Rat} (hf : Asc f) (hf2 : 2 ≤ f.length) (hg : Asc g) (hg2 : 2 ≤ g.length)

theorem cps_asc (hf : Asc f) (hf2 : 2 ≤ f.length) (hg : Asc g) (hg2 : 2 ≤ g.length) (hx : xs.Pairwise (· < ·)) : Asc (cps f g xs) := by
  unfold Asc cps
  rw [List.pairwise_map, List.pairwise_iff_getElem]
  intro i j hi hj hij
  have := List.pairwise_iff_getElem.1 hx i j hi hj hij
  exact ⟨this, ev_mono hg hg2 (ev_mono hf hf2 this)⟩

/-- with all places where one of them bends, the points make the curve -/
theorem cps_cv (hf : Asc f) (hf2 : 2 ≤ f.length) (hg : Asc g) (hg2 : 2 ≤ g.length) (hx : xs.Pairwise (· < ·)) (hl : 2 ≤ xs.length) (h1 : ∀ p ∈ f, p.1 ∈ xs) (h2 : ∀ q ∈ g, cv (ex f) q.1 ∈ xs) (x : Rat) :
    cv (cps f g xs) x = cv g (cv f x) := by
  have ha := cps_asc hf hf2 hg hg2 hx
  have hlen : (cps f g xs).length = xs.length := by simp [cps]
  obtain ⟨i, p, q, hp, hq, c1, c2⟩ := seg (cps f g xs) x (by rw [hlen]; exact hl)
  have hv := ev_at _ i x p q ha hp hq c1 c2
  have hpx : xs[i]? = some p.1 ∧ p.2 = cv g (cv f p.1) := by
    unfold cps at hp
    rw [List.getElem?_map] at hp
    obtain ⟨z, e1, rfl⟩ := Option.map_eq_some_iff.1 hp
    exact ⟨e1, rfl⟩
  have hqx : xs[i + 1]? = some q.1 ∧ q.2 = cv g (cv f q.1) := by
    unfold cps at hq
    rw [List.getElem?_map] at hq
    obtain ⟨z, e1, rfl⟩ := Option.map_eq_some_iff.1 hq
    exact ⟨e1, rfl⟩
  have hpq := (pair_asc ha hp hq).1
  -- no place lies strictly between, and beyond the ends no bend
  have hbet : ∀ y ∈ xs, y ≤ p.1 ∨ q.1 ≤ y := by
    intro y hy
    obtain ⟨j, hj, e⟩ := List.getElem_of_mem hy
    obtain ⟨hi1, e1⟩ := List.getElem?_eq_some_iff.1 hpx.1
    obtain ⟨hi2, e2⟩ := List.getElem?_eq_some_iff.1 hqx.1
    by_cases hc : j ≤ i
    · left
      by_cases he : j = i
      · subst he; rw [← e, e1]; exact Rat.le_refl
      · have := List.pairwise_iff_getElem.1 hx j i hj hi1 (by omega)
        rw [e, e1] at this; grind
    · right
      by_cases he : j = i + 1
      · subst he; rw [← e, e2]; exact Rat.le_refl
      · have := List.pairwise_iff_getElem.1 hx (i + 1) j hi2 hj (by omega)
        rw [e, e2] at this; grind
  have hfirst : i = 0 → ∀ y ∈ xs, p.1 ≤ y := by
    intro h0 y hy
    subst h0
    obtain ⟨j, hj, e⟩ := List.getElem_of_mem hy
    obtain ⟨hi1, e1⟩ := List.getElem?_eq_some_iff.1 hpx.1
    by_cases he : j = 0
    · subst he; rw [← e, e1]; exact Rat.le_refl
    · have := List.pairwise_iff_getElem.1 hx 0 j hi1 hj (by omega)
      rw [e, e1] at this; grind
  have hlast : i + 2 = (cps f g xs).length → ∀ y ∈ xs, y ≤ q.1 := by
    intro h0 y hy
    rw [hlen] at h0
    obtain ⟨j, hj, e⟩ := List.getElem_of_mem hy
    obtain ⟨hi2, e2⟩ := List.getElem?_eq_some_iff.1 hqx.1
    by_cases he : j = i + 1
    · subst he; rw [← e, e2]; exact Rat.le_refl
    · have := List.pairwise_iff_getElem.1 hx j (i + 1) hj hi2 (by omega)
      rw [e, e2] at this; grind
  -- the bounds
  have hlo : ∃ u, u ≤ p.1 ∧ u ≤ x ∧ (u = p.1 ∨ i = 0) := by
    by_cases hc : p.1 ≤ x
    · exact ⟨p.1, Rat.le_refl, hc, .inl rfl⟩
    · refine ⟨x, by grind, Rat.le_refl, .inr ?_⟩
      rcases c1 with c1 | c1
      · exact c1
      · grind
  have hhi : ∃ v, q.1 ≤ v ∧ x ≤ v ∧ (v = q.1 ∨ i + 2 = (cps f g xs).length) := by
    by_cases hc : x ≤ q.1
    · exact ⟨q.1, Rat.le_refl, hc, .inl rfl⟩
    · refine ⟨x, by grind, Rat.le_refl, .inr ?_⟩
      rcases c2 with c2 | c2
      · exact c2
      · exact absurd c2 hc
  obtain ⟨u, u1, u2, u3⟩ := hlo
  obtain ⟨v, v1, v2, v3⟩ := hhi
  have huv : u < v := by grind
  have hmem : ∀ y ∈ xs, (∃ z ∈ xs, z < y) → (∃ z ∈ xs, y < z) → ¬ (u < y ∧ y < v) := by
    rintro y hy ⟨z1, hz1, l1⟩ ⟨z2, hz2, l2⟩ ⟨k1, k2⟩
    rcases hbet y hy with hb | hb
    · rcases u3 with u3 | u3
      · rw [u3] at k1; grind
      · have := hfirst u3 z1 hz1; grind
    · rcases v3 with v3 | v3
      · rw [v3] at k2; grind
      · have := hlast v3 z2 hz2; grind
  have nf' : ∀ y, Inner f y → ¬ (u < y ∧ y < v) := by
    intro y hy
    obtain ⟨a, ha1, ha2⟩ := inner_mem hy
    obtain ⟨b, hb1, hb2⟩ := inner_ge_head hf hy
    obtain ⟨c, hc1, hc2⟩ := inner_le_last hf hy
    refine hmem y (by rw [← ha2]; exact h1 a ha1) ⟨b.1, h1 b (List.mem_of_head? hb1), hb2⟩ ⟨c.1, h1 c hc1, hc2⟩
  obtain ⟨pf, sf, hsf, hfl⟩ := flat hf hf2 huv nf'
  have hfuv : cv f u < cv f v := ev_mono hf hf2 huv
  have hexm : ∀ {a b : Rat}, a < b → cv (ex f) a < cv (ex f) b := fun hab => ev_mono (ex_asc hf) (by rw [ex_len]; exact hf2) hab
  have ng : ∀ y, Inner g y → ¬ (cv f u < y ∧ y < cv f v) := by
    rintro y hy ⟨k1, k2⟩
    obtain ⟨a, ha1, ha2⟩ := inner_mem hy
    obtain ⟨b, hb1, hb2⟩ := inner_ge_head hg hy
    obtain ⟨c, hc1, hc2⟩ := inner_le_last hg hy
    have e1 := hexm k1
    have e2 := hexm k2
    rw [ex_back hf hf2] at e1 e2
    refine hmem (cv (ex f) y) (by rw [← ha2]; exact h2 a ha1) ⟨_, h2 b (List.mem_of_head? hb1), hexm hb2⟩ ⟨_, h2 c hc1, hexm hc2⟩ ⟨e1, e2⟩
  obtain ⟨pg, sg', hsg, hgl⟩ := flat hg hg2 hfuv ng
  obtain ⟨r, hr⟩ := ln_comp pf pg sf sg' 0
  have hmono : ∀ {a b : Rat}, a ≤ b → cv f a ≤ cv f b := fun {a b} hab => by
    by_cases he : a = b
    · rw [he]; exact Rat.le_refl
    · have := ev_mono hf hf2 (show a < b by grind); grind
  have hcomp : ∀ z, u ≤ z → z ≤ v → cv g (cv f z) = ln r (sg' * sf) z := fun z hz1 hz2 => by
    rw [hgl _ (hmono hz1) (hmono hz2), hfl z hz1 hz2, hr]
  rw [hv, hcomp x u2 v2]
  have ep : p = (p.1, ln r (sg' * sf) p.1) := Prod.ext rfl (by rw [hpx.2]; exact hcomp p.1 u1 (by grind))
  have eq : q = (q.1, ln r (sg' * sf) q.1) := Prod.ext rfl (by rw [hqx.2]; exact hcomp q.1 (by grind) v1)
  rw [ep, eq]
  exact (two_line hpq).symm
end
end Go.Pure

namespace Go.Pure
set_option linter.unusedVariables false

/-- the score at a share, within a piece -/
def Qs (a : Nat → Rat) (i : Nat) (s : Rat) : Rat := (i : Rat) - 1 / 2 + (s - a i) / (a (i + 1) - a i)

/-- the points from the pieces i and j on -/
def pw (a b : Nat → Rat) (n m : Nat) : Nat → Nat → Nat → List Pt
  | 0, _, _ => []
  | k + 1, i, j => if i < n ∧ j < m then
      (Qs a i (if b (j + 1) < a (i + 1) then b (j + 1) else a (i + 1)), Qs b j (if b (j + 1) < a (i + 1) then b (j + 1) else a (i + 1))) ::
        pw a b n m k (if a (i + 1) ≤ b (j + 1) then i + 1 else i) (if b (j + 1) ≤ a (i + 1) then j + 1 else j)
    else []

/-- shares ascend from 0 to 1 -/
structure Sh (a : Nat → Rat) (n : Nat) : Prop where
  zero : a 0 = 0
  one : a n = 1
  up : ∀ i, i < n → a i < a (i + 1)
  pos : 0 < n

theorem Sh.le {a : Nat → Rat} {n : Nat} (h : Sh a n) : ∀ (k i : Nat), i + k = n → a i ≤ 1
  | 0, i, hi => by rw [show i = n by omega, h.one]; exact Rat.le_refl
  | k + 1, i, hi => by have := h.le k (i + 1) (by omega); have := h.up i (by omega); grind

theorem Sh.le1 {a : Nat → Rat} {n : Nat} (h : Sh a n) {i : Nat} (hi : i ≤ n) : a i ≤ 1 := h.le (n - i) i (by omega)

theorem Qs_up {a : Nat → Rat} {i : Nat} (h : a i < a (i + 1)) {s t : Rat} (hst : s < t) : Qs a i s < Qs a i t := by
  unfold Qs
  have h1 : 0 < (a (i + 1) - a i)⁻¹ := Rat.inv_pos.2 (by grind)
  have h2 : 0 < (t - s) * (a (i + 1) - a i)⁻¹ := Rat.mul_pos (by grind) h1
  rw [Rat.div_def, Rat.div_def]
  grind

theorem Qs_0 (a : Nat → Rat) (i : Nat) : Qs a i (a i) = (i : Rat) - 1 / 2 := by unfold Qs; rw [Rat.div_def]; grind

theorem Qs_1 {a : Nat → Rat} {i : Nat} (h : a i < a (i + 1)) : Qs a i (a (i + 1)) = ((i + 1 : Nat) : Rat) - 1 / 2 := by
  unfold Qs
  have h1 : a (i + 1) - a i ≠ 0 := by grind
  have h2 : ((i + 1 : Nat) : Rat) = (i : Rat) + 1 := by rw [Rat.natCast_add]; rfl
  rw [h2]
  have h3 : (a (i + 1) - a i) / (a (i + 1) - a i) = 1 := by grind
  rw [h3]; grind

theorem Qs_next {a : Nat → Rat} {i : Nat} (h : a i < a (i + 1)) : Qs a i (a (i + 1)) = Qs a (i + 1) (a (i + 1)) := by rw [Qs_1 h, Qs_0]

/-- what holds at a point: the last share lies in both pieces -/
structure At (a b : Nat → Rat) (n m i j : Nat) (s : Rat) : Prop where
  ai : a i ≤ s
  bj : b j ≤ s
  an : i < n → s < a (i + 1)
  bm : j < m → s < b (j + 1)
  im : i ≤ n
  jm : j ≤ m

section
variable {a b : Nat → Rat} {n m : Nat} (ha : Sh a n) (hb : Sh b m)

theorem At.both {i j : Nat} {s : Rat} (h : At a b n m i j s) (ha : Sh a n) (hb : Sh b m) : i < n ↔ j < m := by
  constructor
  · intro hi
    apply Decidable.byContradiction
    intro hj
    have h1 := h.bj
    rw [show j = m by have := h.jm; omega, hb.one] at h1
    have h2 := h.an hi
    have h3 := ha.le1 (show i + 1 ≤ n by omega)
    grind
  · intro hj
    apply Decidable.byContradiction
    intro hi
    have h1 := h.ai
    rw [show i = n by have := h.im; omega, ha.one] at h1
    have h2 := h.bm hj
    have h3 := hb.le1 (show j + 1 ≤ m by omega)
    grind

/-- the next share -/
def nx (a b : Nat → Rat) (i j : Nat) : Rat := if b (j + 1) < a (i + 1) then b (j + 1) else a (i + 1)
def ni (a b : Nat → Rat) (i j : Nat) : Nat := if a (i + 1) ≤ b (j + 1) then i + 1 else i
def nj (a b : Nat → Rat) (i j : Nat) : Nat := if b (j + 1) ≤ a (i + 1) then j + 1 else j

theorem pw_step (k : Nat) {i j : Nat} (hi : i < n) (hj : j < m) : pw a b n m (k + 1) i j = (Qs a i (nx a b i j), Qs b j (nx a b i j)) :: pw a b n m k (ni a b i j) (nj a b i j) := by
  conv => lhs; unfold pw
  rw [if_pos ⟨hi, hj⟩]; rfl

theorem At.next {i j : Nat} {s : Rat} (h : At a b n m i j s) (ha : Sh a n) (hb : Sh b m) (hi : i < n) (hj : j < m) :
    At a b n m (ni a b i j) (nj a b i j) (nx a b i j) ∧ s < nx a b i j ∧ nx a b i j ≤ a (i + 1) ∧ nx a b i j ≤ b (j + 1) ∧ (nx a b i j = a (i + 1) ∨ nx a b i j = b (j + 1)) := by
  have h1 := h.an hi
  have h2 := h.bm hj
  have h3 := h.ai
  have h4 := h.bj
  unfold nx ni nj
  rcases Decidable.em (b (j + 1) < a (i + 1)) with hc | hc
  · rw [if_pos hc, if_neg (by grind), if_pos (by grind)]
    refine ⟨⟨by grind, by grind, fun _ => hc, fun hj' => hb.up (j + 1) hj', by omega, by omega⟩, h2, by grind, by grind, .inr rfl⟩
  · rw [if_neg hc, if_pos (by grind)]
    by_cases he : a (i + 1) = b (j + 1)
    · rw [if_pos (by grind)]
      refine ⟨⟨by grind, by grind, fun hi' => ha.up (i + 1) hi', fun hj' => by have := hb.up (j + 1) hj'; grind, by omega, by omega⟩, h1, by grind, by grind, .inl rfl⟩
    · rw [if_neg (by grind)]
      refine ⟨⟨by grind, by grind, fun hi' => ha.up (i + 1) hi', fun hj' => by grind, by omega, by omega⟩, h1, by grind, by grind, .inl rfl⟩

theorem Qs_same {i j : Nat} {s : Rat} (h : At a b n m i j s) (ha : Sh a n) (hb : Sh b m) (hi : i < n) (hj : j < m) :
    Qs a (ni a b i j) (nx a b i j) = Qs a i (nx a b i j) ∧ Qs b (nj a b i j) (nx a b i j) = Qs b j (nx a b i j) := by
  have u1 := ha.up i hi
  have u2 := hb.up j hj
  unfold nx ni nj
  rcases Decidable.em (b (j + 1) < a (i + 1)) with hc | hc
  · rw [if_pos hc, if_neg (by grind), if_pos (by grind)]
    exact ⟨rfl, (Qs_next u2).symm⟩
  · rw [if_neg hc, if_pos (by grind)]
    by_cases he : a (i + 1) = b (j + 1)
    · rw [if_pos (by grind)]
      refine ⟨(Qs_next u1).symm, ?_⟩
      rw [he]; exact (Qs_next u2).symm
    · rw [if_neg (by grind)]
      exact ⟨(Qs_next u1).symm, rfl⟩

theorem less_steps (i j : Nat) : i + j < ni a b i j + nj a b i j := by
  unfold ni nj
  rcases Decidable.em (b (j + 1) < a (i + 1)) with hc | hc
  · rw [if_neg (by grind), if_pos (by grind)]; omega
  · rw [if_pos (by grind)]
    split <;> omega

theorem pw_asc : ∀ (k i j : Nat) (s : Rat), At a b n m i j s → Sh a n → Sh b m → Asc ((Qs a i s, Qs b j s) :: pw a b n m k i j)
  | 0, i, j, s, h, ha, hb => List.pairwise_singleton _ _
  | k + 1, i, j, s, h, ha, hb => by
    by_cases hc : i < n ∧ j < m
    · obtain ⟨hi, hj⟩ := hc
      obtain ⟨h1, h2, h3, h4, h5⟩ := h.next ha hb hi hj
      obtain ⟨q1, q2⟩ := Qs_same h ha hb hi hj
      have ih := pw_asc k _ _ _ h1 ha hb
      rw [q1, q2] at ih
      rw [pw_step k hi hj]
      have l1 := Qs_up (ha.up i hi) h2
      have l2 := Qs_up (hb.up j hj) h2
      refine List.pairwise_cons.2 ⟨fun p hp => ?_, ih⟩
      rcases List.mem_cons.1 hp with hp | hp
      · rw [hp]; exact ⟨l1, l2⟩
      · have := (List.pairwise_cons.1 ih).1 p hp
        dsimp only at this ⊢
        exact ⟨by grind, by grind⟩
    · have : pw a b n m (k + 1) i j = [] := by unfold pw; rw [if_neg hc]
      rw [this]
      exact List.pairwise_singleton _ _

theorem pw_len : ∀ (k i j : Nat), (pw a b n m k i j).length ≤ k
  | 0, _, _ => Nat.le_refl _
  | k + 1, i, j => by
    unfold pw
    split
    · simp only [List.length_cons]
      have := pw_len k (if a (i + 1) ≤ b (j + 1) then i + 1 else i) (if b (j + 1) ≤ a (i + 1) then j + 1 else j)
      omega
    · simp

/-- what a point is -/
def IsP (a b : Nat → Rat) (n m : Nat) (p : Pt) : Prop := ∃ (i j : Nat) (s : Rat), i < n ∧ j < m ∧ a i ≤ s ∧ s ≤ a (i + 1) ∧ b j ≤ s ∧ s ≤ b (j + 1) ∧ (s = a (i + 1) ∨ s = b (j + 1)) ∧ p = (Qs a i s, Qs b j s)

theorem pw_is : ∀ (k i j : Nat) (s : Rat), At a b n m i j s → Sh a n → Sh b m → ∀ p ∈ pw a b n m k i j, IsP a b n m p
  | 0, i, j, s, h, ha, hb, p, hp => by cases hp
  | k + 1, i, j, s, h, ha, hb, p, hp => by
    by_cases hc : i < n ∧ j < m
    · obtain ⟨hi, hj⟩ := hc
      obtain ⟨h1, h2, h3, h4, h5⟩ := h.next ha hb hi hj
      rw [pw_step k hi hj] at hp
      rcases List.mem_cons.1 hp with hp | hp
      · exact ⟨i, j, nx a b i j, hi, hj, by have := h.ai; grind, h3, by have := h.bj; grind, h4, h5, hp⟩
      · exact pw_is k _ _ _ h1 ha hb p hp
    · have : pw a b n m (k + 1) i j = [] := by unfold pw; rw [if_neg hc]
      rw [this] at hp; cases hp

/-- what a slope is -/
def IsS (a b : Nat → Rat) (n m : Nat) (t : Rat) : Prop := ∃ (i j : Nat), i < n ∧ j < m ∧ t = (a (i + 1) - a i) / (b (j + 1) - b j)

theorem Qs_sl {i j : Nat} {s t : Rat} (ha : a i < a (i + 1)) (hb : b j < b (j + 1)) (h : s < t) : sl (Qs a i s, Qs b j s) (Qs a i t, Qs b j t) = (a (i + 1) - a i) / (b (j + 1) - b j) := by
  unfold sl Qs
  dsimp only
  have h1 : a (i + 1) - a i ≠ 0 := by grind
  have h2 : b (j + 1) - b j ≠ 0 := by grind
  have h3 : t - s ≠ 0 := by grind
  generalize a (i + 1) - a i = A at *
  generalize b (j + 1) - b j = B at *
  have e1 : (j : Rat) - 1 / 2 + (t - b j) / B - ((j : Rat) - 1 / 2 + (s - b j) / B) = (t - s) / B := by rw [Rat.div_def, Rat.div_def, Rat.div_def, Rat.div_def]; grind
  have e2 : (i : Rat) - 1 / 2 + (t - a i) / A - ((i : Rat) - 1 / 2 + (s - a i) / A) = (t - s) / A := by rw [Rat.div_def, Rat.div_def, Rat.div_def, Rat.div_def]; grind
  rw [e1, e2]
  grind

theorem pw_sl : ∀ (k i j : Nat) (s : Rat), At a b n m i j s → Sh a n → Sh b m → ∀ (c : Nat) (p q : Pt), ((Qs a i s, Qs b j s) :: pw a b n m k i j)[c]? = some p → ((Qs a i s, Qs b j s) :: pw a b n m k i j)[c + 1]? = some q → IsS a b n m (sl p q)
  | 0, i, j, s, h, ha, hb, c, p, q, hp, hq => by simp [pw] at hq
  | k + 1, i, j, s, h, ha, hb, c, p, q, hp, hq => by
    by_cases hc : i < n ∧ j < m
    · obtain ⟨hi, hj⟩ := hc
      obtain ⟨h1, h2, h3, h4, h5⟩ := h.next ha hb hi hj
      obtain ⟨q1, q2⟩ := Qs_same h ha hb hi hj
      have ih := pw_sl k _ _ _ h1 ha hb
      rw [q1, q2] at ih
      rw [pw_step k hi hj] at hp hq
      cases c with
      | zero =>
        simp only [List.getElem?_cons_zero, Option.some.injEq] at hp
        simp only [List.getElem?_cons_succ, List.getElem?_cons_zero, Option.some.injEq] at hq
        rw [← hp, ← hq]
        exact ⟨i, j, hi, hj, Qs_sl (ha.up i hi) (hb.up j hj) h2⟩
      | succ c =>
        rw [List.getElem?_cons_succ] at hp hq
        exact ih c p q hp hq
    · have : pw a b n m (k + 1) i j = [] := by unfold pw; rw [if_neg hc]
      rw [this] at hq; simp at hq

/-- each knot of the first is met -/
theorem pw_knot : ∀ (k i j : Nat) (s : Rat), At a b n m i j s → Sh a n → Sh b m → (n - i) + (m - j) ≤ k → ∀ c, i < c → c ≤ n → ∃ p ∈ pw a b n m k i j, p.1 = (c : Rat) - 1 / 2 ∧ ∃ d, d < m ∧ b d ≤ a c ∧ a c ≤ b (d + 1) ∧ p.2 = Qs b d (a c)
  | 0, i, j, s, h, ha, hb, hk, c, hc, hcn => by omega
  | k + 1, i, j, s, h, ha, hb, hk, c, hc, hcn => by
    have hi : i < n := by omega
    have hj : j < m := (h.both ha hb).1 hi
    obtain ⟨h1, h2, h3, h4, h5⟩ := h.next ha hb hi hj
    rw [pw_step k hi hj]
    have hless := less_steps (a := a) (b := b) i j
    have him := h1.im
    have hjm := h1.jm
    by_cases he : i + 1 = c ∧ a (i + 1) ≤ b (j + 1)
    · refine ⟨_, List.mem_cons_self, ?_⟩
      have enx : nx a b i j = a (i + 1) := by unfold nx; rw [if_neg (by grind)]
      rw [enx, ← he.1]
      refine ⟨Qs_1 (ha.up i hi), j, hj, ?_, he.2, rfl⟩
      have := h.bj; have := h.an hi; grind
    · have hlt : ni a b i j < c := by
        unfold ni
        split
        · rename_i hle
          have : i + 1 ≠ c := fun e => he ⟨e, hle⟩
          omega
        · omega
      obtain ⟨p, hp, hp2⟩ := pw_knot k _ _ _ h1 ha hb (by omega) c hlt hcn
      exact ⟨p, List.mem_cons_of_mem _ hp, hp2⟩

theorem pw_swap : ∀ (k i j : Nat), pw b a m n k j i = ex (pw a b n m k i j)
  | 0, _, _ => rfl
  | k + 1, i, j => by
    unfold pw
    by_cases hc : i < n ∧ j < m
    · rw [if_pos hc, if_pos ⟨hc.2, hc.1⟩]
      have ih := pw_swap k (if a (i + 1) ≤ b (j + 1) then i + 1 else i) (if b (j + 1) ≤ a (i + 1) then j + 1 else j)
      show _ = _ :: ex _
      rw [← ih]
      congr 1
      rcases Decidable.em (b (j + 1) < a (i + 1)) with h1 | h1
      · rw [if_pos h1, if_neg (by grind)]
      · rw [if_neg h1]
        by_cases h2 : a (i + 1) < b (j + 1)
        · rw [if_pos h2]
        · have : a (i + 1) = b (j + 1) := by grind
          rw [if_neg h2, this]
    · rw [if_neg hc, if_neg (by grind)]
      rfl
end

/-- the points of the curve -/
def pts (a b : Nat → Rat) (n m : Nat) : List Pt := (-1 / 2, -1 / 2) :: pw a b n m (n + m) 0 0

theorem at0 {a b : Nat → Rat} {n m : Nat} (ha : Sh a n) (hb : Sh b m) : At a b n m 0 0 0 :=
  ⟨by rw [ha.zero]; exact Rat.le_refl, by rw [hb.zero]; exact Rat.le_refl, fun h => by have := ha.up 0 h; rw [ha.zero] at this; exact this, fun h => by have := hb.up 0 h; rw [hb.zero] at this; exact this, by omega, by omega⟩

theorem Qs00 {a : Nat → Rat} {n : Nat} (ha : Sh a n) : Qs a 0 0 = -1 / 2 := by
  have := Qs_0 a 0
  rw [ha.zero] at this
  rw [this]
  have : ((0 : Nat) : Rat) = 0 := rfl
  rw [this]
  grind

theorem pts_eq {a b : Nat → Rat} {n m : Nat} (ha : Sh a n) (hb : Sh b m) : pts a b n m = (Qs a 0 0, Qs b 0 0) :: pw a b n m (n + m) 0 0 := by
  unfold pts; rw [Qs00 ha, Qs00 hb]

theorem pts_asc {a b : Nat → Rat} {n m : Nat} (ha : Sh a n) (hb : Sh b m) : Asc (pts a b n m) := by
  rw [pts_eq ha hb]; exact pw_asc _ _ _ _ (at0 ha hb) ha hb

theorem pts_len {a b : Nat → Rat} {n m : Nat} (ha : Sh a n) (hb : Sh b m) : 2 ≤ (pts a b n m).length ∧ (pts a b n m).length ≤ n + m + 1 := by
  have h1 := pw_len (a := a) (b := b) (n := n) (m := m) (n + m) 0 0
  unfold pts
  simp only [List.length_cons]
  refine ⟨?_, by omega⟩
  obtain ⟨k, hk⟩ : ∃ k, n + m = k + 1 := ⟨n + m - 1, by have := ha.pos; omega⟩
  rw [hk, pw_step k ha.pos hb.pos]
  simp

theorem pts_swap (a b : Nat → Rat) (n m : Nat) : pts b a m n = ex (pts a b n m) := by
  unfold pts
  rw [show m + n = n + m by omega, pw_swap]
  rfl

theorem pts_sl {a b : Nat → Rat} {n m : Nat} (ha : Sh a n) (hb : Sh b m) (c : Nat) (p q : Pt) (hp : (pts a b n m)[c]? = some p) (hq : (pts a b n m)[c + 1]? = some q) : IsS a b n m (sl p q) := by
  rw [pts_eq ha hb] at hp hq
  exact pw_sl _ _ _ _ (at0 ha hb) ha hb c p q hp hq

theorem pts_is {a b : Nat → Rat} {n m : Nat} (ha : Sh a n) (hb : Sh b m) : ∀ p ∈ pts a b n m, p = (-1 / 2, -1 / 2) ∨ IsP a b n m p := by
  intro p hp
  unfold pts at hp
  rcases List.mem_cons.1 hp with hp | hp
  · exact .inl hp
  · exact .inr (pw_is _ _ _ _ (at0 ha hb) ha hb p hp)

theorem pts_knot {a b : Nat → Rat} {n m : Nat} (ha : Sh a n) (hb : Sh b m) (c : Nat) (hc : c ≤ n) : ∃ p ∈ pts a b n m, p.1 = (c : Rat) - 1 / 2 ∧ ∃ d, d < m ∧ b d ≤ a c ∧ a c ≤ b (d + 1) ∧ p.2 = Qs b d (a c) := by
  by_cases h0 : c = 0
  · subst h0
    refine ⟨(-1 / 2, -1 / 2), List.mem_cons_self, ?_, 0, hb.pos, ?_, ?_, ?_⟩
    · have : ((0 : Nat) : Rat) = 0 := rfl
      rw [this]; grind
    · rw [ha.zero, hb.zero]; exact Rat.le_refl
    · rw [ha.zero]; have := hb.up 0 hb.pos; rw [hb.zero] at this; grind
    · rw [ha.zero, Qs00 hb]
  · obtain ⟨p, hp, h2⟩ := pw_knot (n + m) 0 0 0 (at0 ha hb) ha hb (by omega) c (by omega) hc
    exact ⟨p, List.mem_cons_of_mem _ hp, h2⟩
end Go.Pure
