/- Shares of two distributions, and the curve that leads the one to the other; no program in sight. -/
import Derived.Test.YthhedegaeeadhaaPureC2
namespace Go.Pure
set_option linter.unusedVariables false

/-- the score at a share, within a piece -/
def Qs (a : Nat → Rat) (i : Nat) (s : Rat) : Rat := (i : Rat) - 1 / 2 + (s - a i) / (a (i + 1) - a i)

/-- the points from the pieces i and j on -/
def pw (a b : Nat → Rat) (n m : Nat) : Nat → Nat → Nat → List Pt
  | 0, _, _ => []
  | k + 1, i, j => if i < n ∧ j < m then
      (Qs a i (if b (j + 1) < a (i + 1) then b (j + 1) else a (i + 1)), Qs b j (if b (j + 1) < a (i + 1) then b (j + 1) else a (i + 1))) ::
        pw a b n m k (if a (i + 1) ≤ b (j + 1) then i + 1 else i) (if b (j + 1) ≤ a (i + 1) then j + 1 else j)
    else []

/-- shares ascend from 0 to 1 -/
structure Sh (a : Nat → Rat) (n : Nat) : Prop where
  zero : a 0 = 0
  one : a n = 1
  up : ∀ i, i < n → a i < a (i + 1)
  pos : 0 < n

theorem Sh.le {a : Nat → Rat} {n : Nat} (h : Sh a n) : ∀ (k i : Nat), i + k = n → a i ≤ 1
  | 0, i, hi => by rw [show i = n by omega, h.one]; exact Rat.le_refl
  | k + 1, i, hi => by have := h.le k (i + 1) (by omega); have := h.up i (by omega); grind

theorem Sh.le1 {a : Nat → Rat} {n : Nat} (h : Sh a n) {i : Nat} (hi : i ≤ n) : a i ≤ 1 := h.le (n - i) i (by omega)

theorem Qs_up {a : Nat → Rat} {i : Nat} (h : a i < a (i + 1)) {s t : Rat} (hst : s < t) : Qs a i s < Qs a i t := by
  unfold Qs
  have h1 : 0 < (a (i + 1) - a i)⁻¹ := Rat.inv_pos.2 (by grind)
  have h2 : 0 < (t - s) * (a (i + 1) - a i)⁻¹ := Rat.mul_pos (by grind) h1
  rw [Rat.div_def, Rat.div_def]
  grind

theorem Qs_0 (a : Nat → Rat) (i : Nat) : Qs a i (a i) = (i : Rat) - 1 / 2 := by unfold Qs; rw [Rat.div_def]; grind

theorem Qs_1 {a : Nat → Rat} {i : Nat} (h : a i < a (i + 1)) : Qs a i (a (i + 1)) = ((i + 1 : Nat) : Rat) - 1 / 2 := by
  unfold Qs
  have h1 : a (i + 1) - a i ≠ 0 := by grind
  have h2 : ((i + 1 : Nat) : Rat) = (i : Rat) + 1 := by rw [Rat.natCast_add]; rfl
  rw [h2]
  have h3 : (a (i + 1) - a i) / (a (i + 1) - a i) = 1 := by grind
  rw [h3]; grind

theorem Qs_next {a : Nat → Rat} {i : Nat} (h : a i < a (i + 1)) : Qs a i (a (i + 1)) = Qs a (i + 1) (a (i + 1)) := by rw [Qs_1 h, Qs_0]

/-- what holds at a point: the last share lies in both pieces -/
structure At (a b : Nat → Rat) (n m i j : Nat) (s : Rat) : Prop where
  ai : a i ≤ s
  bj : b j ≤ s
  an : i < n → s < a (i + 1)
  bm : j < m → s < b (j + 1)
  im : i ≤ n
  jm : j ≤ m

section
variable {a b : Nat → Rat} {n m : Nat} (ha : Sh a n) (hb : Sh b m)

theorem At.both {i j : Nat} {s : Rat} (h : At a b n m i j s) (ha : Sh a n) (hb : Sh b m) : i < n ↔ j < m := by
  constructor
  · intro hi
    apply Decidable.byContradiction
    intro hj
    have h1 := h.bj
    rw [show j = m by have := h.jm; omega, hb.one] at h1
    have h2 := h.an hi
    have h3 := ha.le1 (show i + 1 ≤ n by omega)
    grind
  · intro hj
    apply Decidable.byContradiction
    intro hi
    have h1 := h.ai
    rw [show i = n by have := h.im; omega, ha.one] at h1
    have h2 := h.bm hj
    have h3 := hb.le1 (show j + 1 ≤ m by omega)
    grind

/-- the next share -/
def nx (a b : Nat → Rat) (i j : Nat) : Rat := if b (j + 1) < a (i + 1) then b (j + 1) else a (i + 1)
def ni (a b : Nat → Rat) (i j : Nat) : Nat := if a (i + 1) ≤ b (j + 1) then i + 1 else i
def nj (a b : Nat → Rat) (i j : Nat) : Nat := if b (j + 1) ≤ a (i + 1) then j + 1 else j

theorem pw_step (k : Nat) {i j : Nat} (hi : i < n) (hj : j < m) : pw a b n m (k + 1) i j = (Qs a i (nx a b i j), Qs b j (nx a b i j)) :: pw a b n m k (ni a b i j) (nj a b i j) := by
  conv => lhs; unfold pw
  rw [if_pos ⟨hi, hj⟩]; rfl

theorem At.next {i j : Nat} {s : Rat} (h : At a b n m i j s) (ha : Sh a n) (hb : Sh b m) (hi : i < n) (hj : j < m) :
    At a b n m (ni a b i j) (nj a b i j) (nx a b i j) ∧ s < nx a b i j ∧ nx a b i j ≤ a (i + 1) ∧ nx a b i j ≤ b (j + 1) ∧ (nx a b i j = a (i + 1) ∨ nx a b i j = b (j + 1)) := by
  have h1 := h.an hi
  have h2 := h.bm hj
  have h3 := h.ai
  have h4 := h.bj
  unfold nx ni nj
  rcases Decidable.em (b (j + 1) < a (i + 1)) with hc | hc
  · rw [if_pos hc, if_neg (by grind), if_pos (by grind)]
    refine ⟨⟨by grind, by grind, fun _ => hc, fun hj' => hb.up (j + 1) hj', by omega, by omega⟩, h2, by grind, by grind, .inr rfl⟩
  · rw [if_neg hc, if_pos (by grind)]
    by_cases he : a (i + 1) = b (j + 1)
    · rw [if_pos (by grind)]
      refine ⟨⟨by grind, by grind, fun hi' => ha.up (i + 1) hi', fun hj' => by have := hb.up (j + 1) hj'; grind, by omega, by omega⟩, h1, by grind, by grind, .inl rfl⟩
    · rw [if_neg (by grind)]
      refine ⟨⟨by grind, by grind, fun hi' => ha.up (i + 1) hi', fun hj' => by grind, by omega, by omega⟩, h1, by grind, by grind, .inl rfl⟩

theorem Qs_same {i j : Nat} {s : Rat} (h : At a b n m i j s) (ha : Sh a n) (hb : Sh b m) (hi : i < n) (hj : j < m) :
    Qs a (ni a b i j) (nx a b i j) = Qs a i (nx a b i j) ∧ Qs b (nj a b i j) (nx a b i j) = Qs b j (nx a b i j) := by
  have u1 := ha.up i hi
  have u2 := hb.up j hj
  unfold nx ni nj
  rcases Decidable.em (b (j + 1) < a (i + 1)) with hc | hc
  · rw [if_pos hc, if_neg (by grind), if_pos (by grind)]
    exact ⟨rfl, (Qs_next u2).symm⟩
  · rw [if_neg hc, if_pos (by grind)]
    by_cases he : a (i + 1) = b (j + 1)
    · rw [if_pos (by grind)]
      refine ⟨(Qs_next u1).symm, ?_⟩
      rw [he]; exact (Qs_next u2).symm
    · rw [if_neg (by grind)]
      exact ⟨(Qs_next u1).symm, rfl⟩

theorem less_steps (i j : Nat) : i + j < ni a b i j + nj a b i j := by
  unfold ni nj
  rcases Decidable.em (b (j + 1) < a (i + 1)) with hc | hc
  · rw [if_neg (by grind), if_pos (by grind)]; omega
  · rw [if_pos (by grind)]
    split <;> omega

theorem pw_asc : ∀ (k i j : Nat) (s : Rat), At a b n m i j s → Sh a n → Sh b m → Asc ((Qs a i s, Qs b j s) :: pw a b n m k i j)
  | 0, i, j, s, h, ha, hb => List.pairwise_singleton _ _
  | k + 1, i, j, s, h, ha, hb => by
    by_cases hc : i < n ∧ j < m
    · obtain ⟨hi, hj⟩ := hc
      obtain ⟨h1, h2, h3, h4, h5⟩ := h.next ha hb hi hj
      obtain ⟨q1, q2⟩ := Qs_same h ha hb hi hj
      have ih := pw_asc k _ _ _ h1 ha hb
      rw [q1, q2] at ih
      rw [pw_step k hi hj]
      have l1 := Qs_up (ha.up i hi) h2
      have l2 := Qs_up (hb.up j hj) h2
      refine List.pairwise_cons.2 ⟨fun p hp => ?_, ih⟩
      rcases List.mem_cons.1 hp with hp | hp
      · rw [hp]; exact ⟨l1, l2⟩
      · have := (List.pairwise_cons.1 ih).1 p hp
        dsimp only at this ⊢
        exact ⟨by grind, by grind⟩
    · have : pw a b n m (k + 1) i j = [] := by unfold pw; rw [if_neg hc]
      rw [this]
      exact List.pairwise_singleton _ _

theorem pw_len : ∀ (k i j : Nat), (pw a b n m k i j).length ≤ k
  | 0, _, _ => Nat.le_refl _
  | k + 1, i, j => by
    unfold pw
    split
    · simp only [List.length_cons]
      have := pw_len k (if a (i + 1) ≤ b (j + 1) then i + 1 else i) (if b (j + 1) ≤ a (i + 1) then j + 1 else j)
      omega
    · simp

/-- what a point is -/
def IsP (a b : Nat → Rat) (n m : Nat) (p : Pt) : Prop := ∃ (i j : Nat) (s : Rat), i < n ∧ j < m ∧ a i ≤ s ∧ s ≤ a (i + 1) ∧ b j ≤ s ∧ s ≤ b (j + 1) ∧ (s = a (i + 1) ∨ s = b (j + 1)) ∧ p = (Qs a i s, Qs b j s)

theorem pw_is : ∀ (k i j : Nat) (s : Rat), At a b n m i j s → Sh a n → Sh b m → ∀ p ∈ pw a b n m k i j, IsP a b n m p
  | 0, i, j, s, h, ha, hb, p, hp => by cases hp
  | k + 1, i, j, s, h, ha, hb, p, hp => by
    by_cases hc : i < n ∧ j < m
    · obtain ⟨hi, hj⟩ := hc
      obtain ⟨h1, h2, h3, h4, h5⟩ := h.next ha hb hi hj
      rw [pw_step k hi hj] at hp
      rcases List.mem_cons.1 hp with hp | hp
      · exact ⟨i, j, nx a b i j, hi, hj, by have := h.ai; grind, h3, by have := h.bj; grind, h4, h5, hp⟩
      · exact pw_is k _ _ _ h1 ha hb p hp
    · have : pw a b n m (k + 1) i j = [] := by unfold pw; rw [if_neg hc]
      rw [this] at hp; cases hp

/-- what a slope is -/
def IsS (a b : Nat → Rat) (n m : Nat) (t : Rat) : Prop := ∃ (i j : Nat), i < n ∧ j < m ∧ t = (a (i + 1) - a i) / (b (j + 1) - b j)

theorem Qs_sl {i j : Nat} {s t : Rat} (ha : a i < a (i + 1)) (hb : b j < b (j + 1)) (h : s < t) : sl (Qs a i s, Qs b j s) (Qs a i t, Qs b j t) = (a (i + 1) - a i) / (b (j + 1) - b j) := by
  unfold sl Qs
  dsimp only
  have h1 : a (i + 1) - a i ≠ 0 := by grind
  have h2 : b (j + 1) - b j ≠ 0 := by grind
  have h3 : t - s ≠ 0 := by grind
  generalize a (i + 1) - a i = A at *
  generalize b (j + 1) - b j = B at *
  have e1 : (j : Rat) - 1 / 2 + (t - b j) / B - ((j : Rat) - 1 / 2 + (s - b j) / B) = (t - s) / B := by rw [Rat.div_def, Rat.div_def, Rat.div_def, Rat.div_def]; grind
  have e2 : (i : Rat) - 1 / 2 + (t - a i) / A - ((i : Rat) - 1 / 2 + (s - a i) / A) = (t - s) / A := by rw [Rat.div_def, Rat.div_def, Rat.div_def, Rat.div_def]; grind
  rw [e1, e2]
  grind

theorem pw_sl : ∀ (k i j : Nat) (s : Rat), At a b n m i j s → Sh a n → Sh b m → ∀ (c : Nat) (p q : Pt), ((Qs a i s, Qs b j s) :: pw a b n m k i j)[c]? = some p → ((Qs a i s, Qs b j s) :: pw a b n m k i j)[c + 1]? = some q → IsS a b n m (sl p q)
  | 0, i, j, s, h, ha, hb, c, p, q, hp, hq => by simp [pw] at hq
  | k + 1, i, j, s, h, ha, hb, c, p, q, hp, hq => by
    by_cases hc : i < n ∧ j < m
    · obtain ⟨hi, hj⟩ := hc
      obtain ⟨h1, h2, h3, h4, h5⟩ := h.next ha hb hi hj
      obtain ⟨q1, q2⟩ := Qs_same h ha hb hi hj
      have ih := pw_sl k _ _ _ h1 ha hb
      rw [q1, q2] at ih
      rw [pw_step k hi hj] at hp hq
      cases c with
      | zero =>
        simp only [List.getElem?_cons_zero, Option.some.injEq] at hp
        simp only [List.getElem?_cons_succ, List.getElem?_cons_zero, Option.some.injEq] at hq
        rw [← hp, ← hq]
        exact ⟨i, j, hi, hj, Qs_sl (ha.up i hi) (hb.up j hj) h2⟩
      | succ c =>
        rw [List.getElem?_cons_succ] at hp hq
        exact ih c p q hp hq
    · have : pw a b n m (k + 1) i j = [] := by unfold pw; rw [if_neg hc]
      rw [this] at hq; simp at hq

/-- each knot of the first is met -/
theorem pw_knot : ∀ (k i j : Nat) (s : Rat), At a b n m i j s → Sh a n → Sh b m → (n - i) + (m - j) ≤ k → ∀ c, i < c → c ≤ n → ∃ p ∈ pw a b n m k i j, p.1 = (c : Rat) - 1 / 2 ∧ ∃ d, d < m ∧ b d ≤ a c ∧ a c ≤ b (d + 1) ∧ p.2 = Qs b d (a c)
  | 0, i, j, s, h, ha, hb, hk, c, hc, hcn => by omega
  | k + 1, i, j, s, h, ha, hb, hk, c, hc, hcn => by
    have hi : i < n := by omega
    have hj : j < m := (h.both ha hb).1 hi
    obtain ⟨h1, h2, h3, h4, h5⟩ := h.next ha hb hi hj
    rw [pw_step k hi hj]
    have hless := less_steps (a := a) (b := b) i j
    have him := h1.im
    have hjm := h1.jm
    by_cases he : i + 1 = c ∧ a (i + 1) ≤ b (j + 1)
    · refine ⟨_, List.mem_cons_self, ?_⟩
      have enx : nx a b i j = a (i + 1) := by unfold nx; rw [if_neg (by grind)]
      rw [enx, ← he.1]
      refine ⟨Qs_1 (ha.up i hi), j, hj, ?_, he.2, rfl⟩
      have := h.bj; have := h.an hi; grind
    · have hlt : ni a b i j < c := by
        unfold ni
        split
        · rename_i hle
          have : i + 1 ≠ c := fun e => he ⟨e, hle⟩
          omega
        · omega
      obtain ⟨p, hp, hp2⟩ := pw_knot k _ _ _ h1 ha hb (by omega) c hlt hcn
      exact ⟨p, List.mem_cons_of_mem _ hp, hp2⟩

theorem pw_swap : ∀ (k i j : Nat), pw b a m n k j i = ex (pw a b n m k i j)
  | 0, _, _ => rfl
  | k + 1, i, j => by
    unfold pw
    by_cases hc : i < n ∧ j < m
    · rw [if_pos hc, if_pos ⟨hc.2, hc.1⟩]
      have ih := pw_swap k (if a (i + 1) ≤ b (j + 1) then i + 1 else i) (if b (j + 1) ≤ a (i + 1) then j + 1 else j)
      show _ = _ :: ex _
      rw [← ih]
      congr 1
      rcases Decidable.em (b (j + 1) < a (i + 1)) with h1 | h1
      · rw [if_pos h1, if_neg (by grind)]
      · rw [if_neg h1]
        by_cases h2 : a (i + 1) < b (j + 1)
        · rw [if_pos h2]
        · have : a (i + 1) = b (j + 1) := by grind
          rw [if_neg h2, this]
    · rw [if_neg hc, if_neg (by grind)]
      rfl
end

/-- the points of the curve -/
def pts (a b : Nat → Rat) (n m : Nat) : List Pt := (-1 / 2, -1 / 2) :: pw a b n m (n + m) 0 0

theorem at0 {a b : Nat → Rat} {n m : Nat} (ha : Sh a n) (hb : Sh b m) : At a b n m 0 0 0 :=
  ⟨by rw [ha.zero]; exact Rat.le_refl, by rw [hb.zero]; exact Rat.le_refl, fun h => by have := ha.up 0 h; rw [ha.zero] at this; exact this, fun h => by have := hb.up 0 h; rw [hb.zero] at this; exact this, by omega, by omega⟩

theorem Qs00 {a : Nat → Rat} {n : Nat} (ha : Sh a n) : Qs a 0 0 = -1 / 2 := by
  have := Qs_0 a 0
  rw [ha.zero] at this
  rw [this]
  have : ((0 : Nat) : Rat) = 0 := rfl
  rw [this]
  grind

theorem pts_eq {a b : Nat → Rat} {n m : Nat} (ha : Sh a n) (hb : Sh b m) : pts a b n m = (Qs a 0 0, Qs b 0 0) :: pw a b n m (n + m) 0 0 := by
  unfold pts; rw [Qs00 ha, Qs00 hb]

theorem pts_asc {a b : Nat → Rat} {n m : Nat} (ha : Sh a n) (hb : Sh b m) : Asc (pts a b n m) := by
  rw [pts_eq ha hb]; exact pw_asc _ _ _ _ (at0 ha hb) ha hb

theorem pts_len {a b : Nat → Rat} {n m : Nat} (ha : Sh a n) (hb : Sh b m) : 2 ≤ (pts a b n m).length ∧ (pts a b n m).length ≤ n + m + 1 := by
  have h1 := pw_len (a := a) (b := b) (n := n) (m := m) (n + m) 0 0
  unfold pts
  simp only [List.length_cons]
  refine ⟨?_, by omega⟩
  obtain ⟨k, hk⟩ : ∃ k, n + m = k + 1 := ⟨n + m - 1, by have := ha.pos; omega⟩
  rw [hk, pw_step k ha.pos hb.pos]
  simp

theorem pts_swap (a b : Nat → Rat) (n m : Nat) : pts b a m n = ex (pts a b n m) := by
  unfold pts
  rw [show m + n = n + m by omega, pw_swap]
  rfl

theorem pts_sl {a b : Nat → Rat} {n m : Nat} (ha : Sh a n) (hb : Sh b m) (c : Nat) (p q : Pt) (hp : (pts a b n m)[c]? = some p) (hq : (pts a b n m)[c + 1]? = some q) : IsS a b n m (sl p q) := by
  rw [pts_eq ha hb] at hp hq
  exact pw_sl _ _ _ _ (at0 ha hb) ha hb c p q hp hq

theorem pts_is {a b : Nat → Rat} {n m : Nat} (ha : Sh a n) (hb : Sh b m) : ∀ p ∈ pts a b n m, p = (-1 / 2, -1 / 2) ∨ IsP a b n m p := by
  intro p hp
  unfold pts at hp
  rcases List.mem_cons.1 hp with hp | hp
  · exact .inl hp
  · exact .inr (pw_is _ _ _ _ (at0 ha hb) ha hb p hp)

theorem pts_knot {a b : Nat → Rat} {n m : Nat} (ha : Sh a n) (hb : Sh b m) (c : Nat) (hc : c ≤ n) : ∃ p ∈ pts a b n m, p.1 = (c : Rat) - 1 / 2 ∧ ∃ d, d < m ∧ b d ≤ a c ∧ a c ≤ b (d + 1) ∧ p.2 = Qs b d (a c) := by
  by_cases h0 : c = 0
  · subst h0
    refine ⟨(-1 / 2, -1 / 2), List.mem_cons_self, ?_, 0, hb.pos, ?_, ?_, ?_⟩
    · have : ((0 : Nat) : Rat) = 0 := rfl
      rw [this]; grind
    · rw [ha.zero, hb.zero]; exact Rat.le_refl
    · rw [ha.zero]; have := hb.up 0 hb.pos; rw [hb.zero] at this; grind
    · rw [ha.zero, Qs00 hb]
  · obtain ⟨p, hp, h2⟩ := pw_knot (n + m) 0 0 0 (at0 ha hb) ha hb (by omega) c (by omega) hc
    exact ⟨p, List.mem_cons_of_mem _ hp, h2⟩
end Go.Pure
