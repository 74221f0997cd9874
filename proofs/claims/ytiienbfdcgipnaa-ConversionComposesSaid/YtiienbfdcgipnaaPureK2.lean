/- Curves: slopes of one after the other. -/
import Derived.Test.YtiienbfdcgipnaaPureK
import Derived.Test.YtiienbfdcgipnaaPureC3
namespace Go.Pure
set_option linter.unusedVariables false

theorem flat2 {l : List Pt} (h : Asc l) (hl : 2 ≤ l.length) {u v : Rat} (huv : u < v) (hn : ∀ y, Inner l y → ¬ (u < y ∧ y < v)) : ∃ (p : Pt) (s : Rat), IsSl l s ∧ ∀ x, u ≤ x → x ≤ v → cv l x = ln p s x := by
  obtain ⟨i, p, q, hp, hq, h1, h2⟩ := seg l ((u + v) / 2) hl
  have hlen : i + 1 < l.length := (List.getElem?_eq_some_iff.1 hq).1
  obtain ⟨a1, a2⟩ := pair_asc h hp hq
  refine ⟨p, sl p q, ⟨i, p, q, hp, hq, rfl⟩, fun x hx1 hx2 => ev_at' h hl hp hq ?_ ?_⟩
  · rcases h1 with h1 | h1
    · exact .inl h1
    · by_cases h0 : i = 0
      · exact .inl h0
      · right
        have := hn p.1 ⟨i, p, by omega, hlen, hp, rfl⟩
        grind
  · by_cases hz : i + 2 = l.length
    · exact .inl hz
    · right
      have := hn q.1 ⟨i + 1, q, by omega, by omega, hq, rfl⟩
      rcases h2 with h2 | h2
      · exact absurd h2 hz
      · grind

theorem cps_sl {f g : List Pt} {xs : List Rat} (hf : Asc f) (hf2 : 2 ≤ f.length) (hg : Asc g) (hg2 : 2 ≤ g.length) (hx : xs.Pairwise (· < ·)) (h1 : ∀ p ∈ f, p.1 ∈ xs) (h2 : ∀ q ∈ g, cv (ex f) q.1 ∈ xs) {t : Rat} (ht : IsSl (cps f g xs) t) :
    ∃ s1 s2, IsSl f s1 ∧ IsSl g s2 ∧ t = s1 * s2 := by
  obtain ⟨i, p, q, hp, hq, rfl⟩ := ht
  have ha := cps_asc hf hf2 hg hg2 hx
  have hpx : xs[i]? = some p.1 ∧ p.2 = cv g (cv f p.1) := by
    unfold cps at hp
    rw [List.getElem?_map] at hp
    obtain ⟨z, e1, rfl⟩ := Option.map_eq_some_iff.1 hp
    exact ⟨e1, rfl⟩
  have hqx : xs[i + 1]? = some q.1 ∧ q.2 = cv g (cv f q.1) := by
    unfold cps at hq
    rw [List.getElem?_map] at hq
    obtain ⟨z, e1, rfl⟩ := Option.map_eq_some_iff.1 hq
    exact ⟨e1, rfl⟩
  have hpq := (pair_asc ha hp hq).1
  have hbet : ∀ y ∈ xs, y ≤ p.1 ∨ q.1 ≤ y := by
    intro y hy
    obtain ⟨j, hj, e⟩ := List.getElem_of_mem hy
    obtain ⟨hi1, e1⟩ := List.getElem?_eq_some_iff.1 hpx.1
    obtain ⟨hi2, e2⟩ := List.getElem?_eq_some_iff.1 hqx.1
    by_cases hc : j ≤ i
    · left
      by_cases he : j = i
      · subst he; rw [← e, e1]; exact Rat.le_refl
      · have := List.pairwise_iff_getElem.1 hx j i hj hi1 (by omega)
        rw [e, e1] at this; grind
    · right
      by_cases he : j = i + 1
      · subst he; rw [← e, e2]; exact Rat.le_refl
      · have := List.pairwise_iff_getElem.1 hx (i + 1) j hi2 hj (by omega)
        rw [e, e2] at this; grind
  obtain ⟨a, s1, t1, e1⟩ := flat2 hf hf2 hpq (fun y hy hc => by
    obtain ⟨r, hr, rfl⟩ := inner_mem hy
    have := hbet _ (h1 r hr)
    grind)
  have huv := ev_mono hf hf2 hpq
  obtain ⟨b, s2, t2, e2⟩ := flat2 hg hg2 huv (fun y hy hc => by
    obtain ⟨r, hr, rfl⟩ := inner_mem hy
    have hb := hbet _ (h2 r hr)
    have m1 := ev_mono (ex_asc hf) (by rw [ex_len]; exact hf2) hc.1
    have m2 := ev_mono (ex_asc hf) (by rw [ex_len]; exact hf2) hc.2
    rw [ex_back hf hf2] at m1 m2
    grind)
  refine ⟨s1, s2, t1, t2, ?_⟩
  have f1 := e1 p.1 Rat.le_refl (by grind)
  have f2 := e1 q.1 (by grind) Rat.le_refl
  have g1 := e2 (cv f p.1) Rat.le_refl (by grind)
  have g2 := e2 (cv f q.1) (by grind) Rat.le_refl
  unfold sl
  rw [hpx.2, hqx.2, g1, g2, f1, f2]
  unfold ln
  have : q.1 - p.1 ≠ 0 := by grind
  grind
end Go.Pure
