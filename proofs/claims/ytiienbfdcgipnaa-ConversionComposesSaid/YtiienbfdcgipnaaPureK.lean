/- Curves: one after the other. -/
import Derived.Test.YtiienbfdcgipnaaPureC2
namespace Go.Pure
set_option linter.unusedVariables false

/-- places of points that are neither first nor last -/
def Inner (l : List Pt) (y : Rat) : Prop := ∃ (i : Nat) (p : Pt), 1 ≤ i ∧ i + 1 < l.length ∧ l[i]? = some p ∧ p.1 = y

theorem ev_at' {l : List Pt} {i : Nat} {x : Rat} {p q : Pt} (h : Asc l) (hl : 2 ≤ l.length) (hp : l[i]? = some p) (hq : l[i + 1]? = some q) (h1 : i = 0 ∨ p.1 ≤ x) (h2 : i + 2 = l.length ∨ x ≤ q.1) : cv l x = ln p (sl p q) x := by
  by_cases he : x = p.1
  · rw [he, ev_through h hl p (List.mem_of_getElem? hp), ln_at]
  · refine ev_at l i x p q h hp hq ?_ h2
    rcases h1 with h1 | h1
    · exact .inl h1
    · exact .inr (by grind)

/-- between two places without a bend, a curve is a line -/
theorem flat {l : List Pt} (h : Asc l) (hl : 2 ≤ l.length) {u v : Rat} (huv : u < v) (hn : ∀ y, Inner l y → ¬ (u < y ∧ y < v)) : ∃ (p : Pt) (s : Rat), 0 < s ∧ ∀ x, u ≤ x → x ≤ v → cv l x = ln p s x := by
  obtain ⟨i, p, q, hp, hq, h1, h2⟩ := seg l ((u + v) / 2) hl
  have hlen : i + 1 < l.length := (List.getElem?_eq_some_iff.1 hq).1
  obtain ⟨a1, a2⟩ := pair_asc h hp hq
  refine ⟨p, sl p q, sl_pos a1 a2, fun x hx1 hx2 => ev_at' h hl hp hq ?_ ?_⟩
  · rcases h1 with h1 | h1
    · exact .inl h1
    · by_cases h0 : i = 0
      · exact .inl h0
      · right
        have := hn p.1 ⟨i, p, by omega, hlen, hp, rfl⟩
        grind
  · by_cases hz : i + 2 = l.length
    · exact .inl hz
    · right
      have := hn q.1 ⟨i + 1, q, by omega, by omega, hq, rfl⟩
      rcases h2 with h2 | h2
      · exact absurd h2 hz
      · grind

theorem ln_comp (p q : Pt) (s t x : Rat) : ∃ r : Pt, ∀ x, ln q t (ln p s x) = ln r (t * s) x := by
  refine ⟨(p.1, ln q t p.2), fun x => ?_⟩
  unfold ln
  dsimp only
  grind

theorem two_line {r : Pt} {s a b x : Rat} (hab : a < b) : ln r s x = ln (a, ln r s a) (sl (a, ln r s a) (b, ln r s b)) x := by
  have h1 : sl (a, ln r s a) (b, ln r s b) = s := by
    unfold sl ln
    dsimp only
    have : b - a ≠ 0 := by grind
    grind
  rw [h1]
  unfold ln
  dsimp only
  grind

theorem inner_ge_head {l : List Pt} (h : Asc l) {y : Rat} (hy : Inner l y) : ∃ p, l.head? = some p ∧ p.1 < y := by
  obtain ⟨i, p, h1, h2, h3, h4⟩ := hy
  cases l with
  | nil => simp at h2
  | cons a r =>
    refine ⟨a, rfl, ?_⟩
    have hm : p ∈ r := by
      obtain ⟨j, rfl⟩ : ∃ j, i = j + 1 := ⟨i - 1, by omega⟩
      rw [List.getElem?_cons_succ] at h3
      exact List.mem_of_getElem? h3
    have := ((List.pairwise_cons.1 h).1 p hm).1
    rw [← h4]; exact this

theorem inner_le_last {l : List Pt} (h : Asc l) {y : Rat} (hy : Inner l y) : ∃ p, p ∈ l ∧ y < p.1 := by
  obtain ⟨i, p, h1, h2, h3, h4⟩ := hy
  have hq : l[i + 1]? = some l[i + 1] := List.getElem?_eq_getElem h2
  refine ⟨l[i + 1], List.getElem_mem h2, ?_⟩
  rw [← h4]; exact (pair_asc h h3 hq).1

theorem inner_mem {l : List Pt} {y : Rat} (hy : Inner l y) : ∃ p ∈ l, p.1 = y := by
  obtain ⟨i, p, h1, h2, h3, h4⟩ := hy
  exact ⟨p, List.mem_of_getElem? h3, h4⟩

/-- the points of one curve after the other -/
def cps (f g : List Pt) (xs : List Rat) : List Pt := xs.map fun x => (x, cv g (cv f x))

section
variable {f g : List Pt} {xs : List Rat} (hf : Asc f) (hf2 : 2 ≤ f.length) (hg : Asc g) (hg2 : 2 ≤ g.length)

theorem cps_asc (hf : Asc f) (hf2 : 2 ≤ f.length) (hg : Asc g) (hg2 : 2 ≤ g.length) (hx : xs.Pairwise (· < ·)) : Asc (cps f g xs) := by
  unfold Asc cps
  rw [List.pairwise_map, List.pairwise_iff_getElem]
  intro i j hi hj hij
  have := List.pairwise_iff_getElem.1 hx i j hi hj hij
  exact ⟨this, ev_mono hg hg2 (ev_mono hf hf2 this)⟩

/-- with all places where one of them bends, the points make the curve -/
theorem cps_cv (hf : Asc f) (hf2 : 2 ≤ f.length) (hg : Asc g) (hg2 : 2 ≤ g.length) (hx : xs.Pairwise (· < ·)) (hl : 2 ≤ xs.length) (h1 : ∀ p ∈ f, p.1 ∈ xs) (h2 : ∀ q ∈ g, cv (ex f) q.1 ∈ xs) (x : Rat) :
    cv (cps f g xs) x = cv g (cv f x) := by
  have ha := cps_asc hf hf2 hg hg2 hx
  have hlen : (cps f g xs).length = xs.length := by simp [cps]
  obtain ⟨i, p, q, hp, hq, c1, c2⟩ := seg (cps f g xs) x (by rw [hlen]; exact hl)
  have hv := ev_at _ i x p q ha hp hq c1 c2
  have hpx : xs[i]? = some p.1 ∧ p.2 = cv g (cv f p.1) := by
    unfold cps at hp
    rw [List.getElem?_map] at hp
    obtain ⟨z, e1, rfl⟩ := Option.map_eq_some_iff.1 hp
    exact ⟨e1, rfl⟩
  have hqx : xs[i + 1]? = some q.1 ∧ q.2 = cv g (cv f q.1) := by
    unfold cps at hq
    rw [List.getElem?_map] at hq
    obtain ⟨z, e1, rfl⟩ := Option.map_eq_some_iff.1 hq
    exact ⟨e1, rfl⟩
  have hpq := (pair_asc ha hp hq).1
  -- no place lies strictly between, and beyond the ends no bend
  have hbet : ∀ y ∈ xs, y ≤ p.1 ∨ q.1 ≤ y := by
    intro y hy
    obtain ⟨j, hj, e⟩ := List.getElem_of_mem hy
    obtain ⟨hi1, e1⟩ := List.getElem?_eq_some_iff.1 hpx.1
    obtain ⟨hi2, e2⟩ := List.getElem?_eq_some_iff.1 hqx.1
    by_cases hc : j ≤ i
    · left
      by_cases he : j = i
      · subst he; rw [← e, e1]; exact Rat.le_refl
      · have := List.pairwise_iff_getElem.1 hx j i hj hi1 (by omega)
        rw [e, e1] at this; grind
    · right
      by_cases he : j = i + 1
      · subst he; rw [← e, e2]; exact Rat.le_refl
      · have := List.pairwise_iff_getElem.1 hx (i + 1) j hi2 hj (by omega)
        rw [e, e2] at this; grind
  have hfirst : i = 0 → ∀ y ∈ xs, p.1 ≤ y := by
    intro h0 y hy
    subst h0
    obtain ⟨j, hj, e⟩ := List.getElem_of_mem hy
    obtain ⟨hi1, e1⟩ := List.getElem?_eq_some_iff.1 hpx.1
    by_cases he : j = 0
    · subst he; rw [← e, e1]; exact Rat.le_refl
    · have := List.pairwise_iff_getElem.1 hx 0 j hi1 hj (by omega)
      rw [e, e1] at this; grind
  have hlast : i + 2 = (cps f g xs).length → ∀ y ∈ xs, y ≤ q.1 := by
    intro h0 y hy
    rw [hlen] at h0
    obtain ⟨j, hj, e⟩ := List.getElem_of_mem hy
    obtain ⟨hi2, e2⟩ := List.getElem?_eq_some_iff.1 hqx.1
    by_cases he : j = i + 1
    · subst he; rw [← e, e2]; exact Rat.le_refl
    · have := List.pairwise_iff_getElem.1 hx j (i + 1) hj hi2 (by omega)
      rw [e, e2] at this; grind
  -- the bounds
  have hlo : ∃ u, u ≤ p.1 ∧ u ≤ x ∧ (u = p.1 ∨ i = 0) := by
    by_cases hc : p.1 ≤ x
    · exact ⟨p.1, Rat.le_refl, hc, .inl rfl⟩
    · refine ⟨x, by grind, Rat.le_refl, .inr ?_⟩
      rcases c1 with c1 | c1
      · exact c1
      · grind
  have hhi : ∃ v, q.1 ≤ v ∧ x ≤ v ∧ (v = q.1 ∨ i + 2 = (cps f g xs).length) := by
    by_cases hc : x ≤ q.1
    · exact ⟨q.1, Rat.le_refl, hc, .inl rfl⟩
    · refine ⟨x, by grind, Rat.le_refl, .inr ?_⟩
      rcases c2 with c2 | c2
      · exact c2
      · exact absurd c2 hc
  obtain ⟨u, u1, u2, u3⟩ := hlo
  obtain ⟨v, v1, v2, v3⟩ := hhi
  have huv : u < v := by grind
  have hmem : ∀ y ∈ xs, (∃ z ∈ xs, z < y) → (∃ z ∈ xs, y < z) → ¬ (u < y ∧ y < v) := by
    rintro y hy ⟨z1, hz1, l1⟩ ⟨z2, hz2, l2⟩ ⟨k1, k2⟩
    rcases hbet y hy with hb | hb
    · rcases u3 with u3 | u3
      · rw [u3] at k1; grind
      · have := hfirst u3 z1 hz1; grind
    · rcases v3 with v3 | v3
      · rw [v3] at k2; grind
      · have := hlast v3 z2 hz2; grind
  have nf' : ∀ y, Inner f y → ¬ (u < y ∧ y < v) := by
    intro y hy
    obtain ⟨a, ha1, ha2⟩ := inner_mem hy
    obtain ⟨b, hb1, hb2⟩ := inner_ge_head hf hy
    obtain ⟨c, hc1, hc2⟩ := inner_le_last hf hy
    refine hmem y (by rw [← ha2]; exact h1 a ha1) ⟨b.1, h1 b (List.mem_of_head? hb1), hb2⟩ ⟨c.1, h1 c hc1, hc2⟩
  obtain ⟨pf, sf, hsf, hfl⟩ := flat hf hf2 huv nf'
  have hfuv : cv f u < cv f v := ev_mono hf hf2 huv
  have hexm : ∀ {a b : Rat}, a < b → cv (ex f) a < cv (ex f) b := fun hab => ev_mono (ex_asc hf) (by rw [ex_len]; exact hf2) hab
  have ng : ∀ y, Inner g y → ¬ (cv f u < y ∧ y < cv f v) := by
    rintro y hy ⟨k1, k2⟩
    obtain ⟨a, ha1, ha2⟩ := inner_mem hy
    obtain ⟨b, hb1, hb2⟩ := inner_ge_head hg hy
    obtain ⟨c, hc1, hc2⟩ := inner_le_last hg hy
    have e1 := hexm k1
    have e2 := hexm k2
    rw [ex_back hf hf2] at e1 e2
    refine hmem (cv (ex f) y) (by rw [← ha2]; exact h2 a ha1) ⟨_, h2 b (List.mem_of_head? hb1), hexm hb2⟩ ⟨_, h2 c hc1, hexm hc2⟩ ⟨e1, e2⟩
  obtain ⟨pg, sg', hsg, hgl⟩ := flat hg hg2 hfuv ng
  obtain ⟨r, hr⟩ := ln_comp pf pg sf sg' 0
  have hmono : ∀ {a b : Rat}, a ≤ b → cv f a ≤ cv f b := fun {a b} hab => by
    by_cases he : a = b
    · rw [he]; exact Rat.le_refl
    · have := ev_mono hf hf2 (show a < b by grind); grind
  have hcomp : ∀ z, u ≤ z → z ≤ v → cv g (cv f z) = ln r (sg' * sf) z := fun z hz1 hz2 => by
    rw [hgl _ (hmono hz1) (hmono hz2), hfl z hz1 hz2, hr]
  rw [hv, hcomp x u2 v2]
  have ep : p = (p.1, ln r (sg' * sf) p.1) := Prod.ext rfl (by rw [hpx.2]; exact hcomp p.1 u1 (by grind))
  have eq : q = (q.1, ln r (sg' * sf) q.1) := Prod.ext rfl (by rw [hqx.2]; exact hcomp q.1 (by grind) v1)
  rw [ep, eq]
  exact (two_line hpq).symm
end
end Go.Pure
