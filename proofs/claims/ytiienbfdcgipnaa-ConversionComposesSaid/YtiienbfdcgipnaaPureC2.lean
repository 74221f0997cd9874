/- Curves: equal functions have equal normal forms; the inverse. -/
import Derived.Test.YtiienbfdcgipnaaPureC
namespace Go.Pure

/-- a place behind a bend, not behind the next one -/
def aft (c : Pt) : List (Pt × Rat) → Rat
  | [] => c.1 + 1
  | d :: _ => d.1.1

theorem Fn_first {L : List (Pt × Rat)} {c : Pt} {t x : Rat} (h : x ≤ aft c L) : Fn c t L x = ln c t x := by
  cases L with
  | nil => rfl
  | cons d L => obtain ⟨d, u⟩ := d; unfold Fn; exact if_pos h

theorem aft_gt {L : List (Pt × Rat)} {c : Pt} {t : Rat} (h : On c t L) : c.1 < aft c L := by
  cases L with
  | nil => unfold aft; grind
  | cons d L => exact h.1

theorem line_eq {a b : Pt} {s t x y : Rat} (hxy : x < y) (h1 : ln a s x = ln b t x) (h2 : ln a s y = ln b t y) : s = t ∧ ∀ z, ln a s z = ln b t z := by
  unfold ln at *
  have h3 : (y - x) * (s - t) = 0 := by grind
  have h4 : s = t := by
    have h5 : y - x ≠ 0 := by grind
    have := Rat.mul_eq_zero.1 h3
    grind
  subst h4
  exact ⟨rfl, fun z => by grind⟩

theorem slope_clash {b c : Pt} {s t x : Rat} (hc : c.2 = ln b s c.1) (hx : c.1 < x) (h : ln c t x = ln b s x) : t = s := by
  rw [← ln_move hc] at h
  unfold ln at h
  have h3 : (x - c.1) * (t - s) = 0 := by grind
  have := Rat.mul_eq_zero.1 h3
  grind

theorem uniq : ∀ (L M : List (Pt × Rat)) (a : Pt) (s : Rat) (b : Pt) (t z : Rat), On a s L → Bent s L → On b t M → Bent t M → (∀ c ∈ L, z < c.1.1) → (∀ c ∈ M, z < c.1.1) → (∀ x, z < x → Fn a s L x = Fn b t M x) → L = M ∧ s = t
  | [], [], a, s, b, t, z, _, _, _, _, _, _, h => by
    have h1 := h (z + 1) (by grind)
    have h2 := h (z + 2) (by grind)
    exact ⟨rfl, (line_eq (show z + 1 < z + 2 by grind) h1 h2).1⟩
  | [], (c, u) :: M, a, s, b, t, z, _, _, hm, bm, _, zm, h => by
    have hz := zm (c, u) (by simp)
    dsimp only at hz
    have h1 := h ((z + c.1) / 2) (by grind)
    have h2 := h c.1 hz
    rw [show Fn b t ((c, u) :: M) ((z + c.1) / 2) = ln b t ((z + c.1) / 2) by unfold Fn; rw [if_pos (by grind)]] at h1
    rw [show Fn b t ((c, u) :: M) c.1 = ln b t c.1 by unfold Fn; rw [if_pos (by grind)]] at h2
    obtain ⟨e1, e2⟩ := line_eq (show (z + c.1) / 2 < c.1 by grind) h1 h2
    have hg := aft_gt hm.2.2
    have h3 := h (aft c M) (by grind)
    rw [show Fn b t ((c, u) :: M) (aft c M) = ln c u (aft c M) by unfold Fn; rw [if_neg (by grind)]; exact Fn_first (by grind)] at h3
    have h4 : ln a s (aft c M) = ln c u (aft c M) := h3
    rw [e2] at h4
    exact absurd (slope_clash hm.2.1 hg h4.symm) bm.1
  | (c, u) :: L, [], a, s, b, t, z, hl, bl, hm, bm, zl, zm, h => by
    have := uniq [] ((c, u) :: L) b t a s z hm bm hl bl zm zl (fun x hx => (h x hx).symm)
    exact absurd this.1 (by simp)
  | (c, u) :: L, (d, v) :: M, a, s, b, t, z, hl, bl, hm, bm, zl, zm, h => by
    have zc := zl (c, u) (by simp)
    have zd := zm (d, v) (by simp)
    dsimp only at zc zd
    have key : ∀ x, z < x → x ≤ c.1 → x ≤ d.1 → ln a s x = ln b t x := fun x hx h1 h2 => by
      have := h x hx
      unfold Fn at this
      rwa [if_pos h1, if_pos h2] at this
    have hlines : s = t ∧ ∀ x, ln a s x = ln b t x := by
      by_cases hcd : c.1 ≤ d.1
      · exact line_eq (show (z + c.1) / 2 < c.1 by grind) (key _ (by grind) (by grind) (by grind)) (key _ (by grind) (by grind) (by grind))
      · exact line_eq (show (z + d.1) / 2 < d.1 by grind) (key _ (by grind) (by grind) (by grind)) (key _ (by grind) (by grind) (by grind))
    obtain ⟨e1, e2⟩ := hlines
    have gc := aft_gt hl.2.2
    have gd := aft_gt hm.2.2
    have nclash : ∀ (L M : List (Pt × Rat)) (a b c d : Pt) (s t u v : Rat), On c u L → c.2 = ln a s c.1 → (∀ x, ln a s x = ln b t x) → u ≠ s → s = t → c.1 < d.1 → (∀ x, c.1 < x → Fn a s ((c, u) :: L) x = Fn b t ((d, v) :: M) x) → False := by
      intro L M a b c d s t u v ho hc e2 hu hst hlt h
      have g := aft_gt ho
      by_cases hle : aft c L ≤ d.1
      · have h1 := h (aft c L) g
        unfold Fn at h1
        rw [if_neg (by grind), if_pos hle, Fn_first (by grind), ← e2] at h1
        exact hu (slope_clash hc g h1)
      · have h1 := h d.1 hlt
        unfold Fn at h1
        rw [if_neg (by grind), if_pos (by grind), Fn_first (by grind), ← e2] at h1
        exact hu (slope_clash hc hlt h1)
    by_cases hcd : c.1 = d.1
    · have hcd2 : c.2 = d.2 := by rw [hl.2.1, hm.2.1, e2, hcd]
      have hce : c = d := Prod.ext hcd hcd2
      subst hce
      have hL : ∀ (r : List (Pt × Rat)) (b : Pt) (t : Rat), On b t r → ∀ c ∈ r, b.1 < c.1.1 := by
        intro r
        induction r with
        | nil => intro b t _ c hc; cases hc
        | cons d r ih =>
          intro b t h c hc
          obtain ⟨d, u⟩ := d
          rcases List.mem_cons.1 hc with hc | hc
          · rw [hc]; exact h.1
          · have := ih d u h.2.2 c hc; have := h.1; grind
      have := uniq L M c u c v c.1 hl.2.2 bl.2 hm.2.2 bm.2 (hL L c u hl.2.2) (hL M c v hm.2.2) (fun x hx => by
        have := h x (by grind)
        unfold Fn at this
        rwa [if_neg (by grind), if_neg (by grind)] at this)
      rw [this.1, this.2]
      exact ⟨rfl, e1⟩
    · exfalso
      by_cases hlt : c.1 < d.1
      · exact nclash L M a b c d s t u v hl.2.2 hl.2.1 e2 bl.1 e1 hlt (fun x hx => h x (by grind))
      · exact nclash M L b a d c t s v u hm.2.2 hm.2.1 (fun x => (e2 x).symm) bm.1 e1.symm (by grind) (fun x hx => (h x (by grind)).symm)

theorem On_lt : ∀ (r : List (Pt × Rat)) (b : Pt) (t : Rat), On b t r → ∀ c ∈ r, b.1 < c.1.1
  | [], _, _, _, c, hc => by cases hc
  | (d, u) :: r, b, t, h, c, hc => by
    rcases List.mem_cons.1 hc with hc | hc
    · rw [hc]; exact h.1
    · have := On_lt r d u h.2.2 c hc; have := h.1; grind

/-- curves with the same values have the same normal form -/
theorem canon {l m : List Pt} (hl : Asc l) (hl2 : 2 ≤ l.length) (hm : Asc m) (hm2 : 2 ≤ m.length) (h : ∀ x, cv l x = cv m x) : nf l = nf m := by
  obtain ⟨a, s, L, y, -, b1, o1, -, t1, f1⟩ := nf_form hl hl2
  obtain ⟨b, t, M, z, -, b2, o2, -, t2, f2⟩ := nf_form hm hm2
  have hh : ∀ x, Fn a s L x = Fn b t M x := fun x => by rw [f1, f2, h]
  have := uniq L M a s b t (min a.1 b.1) o1 t1 o2 t2 (fun c hc => by have := On_lt L a s o1 c hc; grind) (fun c hc => by have := On_lt M b t o2 c hc; grind) (fun x _ => hh x)
  have e : bn l = bn m := by rw [b1, b2, this.1]
  unfold nf
  rw [e, h, h]

/-- where a place lies -/
theorem seg : ∀ (l : List Pt) (x : Rat), 2 ≤ l.length → ∃ (i : Nat) (p q : Pt), l[i]? = some p ∧ l[i + 1]? = some q ∧ (i = 0 ∨ p.1 < x) ∧ (i + 2 = l.length ∨ x ≤ q.1)
  | [], _, h => by simp at h
  | [_], _, h => by simp at h
  | [p, q], x, _ => ⟨0, p, q, rfl, rfl, .inl rfl, .inl rfl⟩
  | p :: q :: r :: l, x, _ => by
    by_cases h : x ≤ q.1
    · exact ⟨0, p, q, rfl, rfl, .inl rfl, .inr h⟩
    · obtain ⟨i, a, b, h1, h2, h3, h4⟩ := seg (q :: r :: l) x (by simp)
      refine ⟨i + 1, a, b, by simpa using h1, by simpa using h2, .inr ?_, ?_⟩
      · rcases h3 with h3 | h3
        · subst h3; simp at h1; rw [← h1]; grind
        · exact h3
      · rcases h4 with h4 | h4
        · left; simp at h4 ⊢; omega
        · exact .inr h4

def ex (l : List Pt) : List Pt := l.map fun p => (p.2, p.1)

theorem ex_asc {l : List Pt} (h : Asc l) : Asc (ex l) := by
  unfold Asc ex
  rw [List.pairwise_map, List.pairwise_iff_getElem]
  intro i j hi hj hij
  have hpq := List.pairwise_iff_getElem.1 h i j hi hj hij
  exact ⟨hpq.2, hpq.1⟩

theorem ex_len (l : List Pt) : (ex l).length = l.length := by simp [ex]

theorem ex_ex (l : List Pt) : ex (ex l) = l := by
  unfold ex
  rw [List.map_map]
  exact List.map_id _

theorem pair_asc {l : List Pt} (h : Asc l) {i : Nat} {p q : Pt} (hp : l[i]? = some p) (hq : l[i + 1]? = some q) : p.1 < q.1 ∧ p.2 < q.2 := by
  obtain ⟨h1, e1⟩ := List.getElem?_eq_some_iff.1 hp
  obtain ⟨h2, e2⟩ := List.getElem?_eq_some_iff.1 hq
  have := List.pairwise_iff_getElem.1 h i (i + 1) h1 h2 (by omega)
  rw [e1, e2] at this
  exact this

theorem ln_lt {a : Pt} {s x y : Rat} (hs : 0 < s) : ln a s x < ln a s y ↔ x < y := by
  refine ⟨fun h => ?_, ln_mono hs⟩
  apply Decidable.byContradiction
  intro hc
  by_cases he : x = y
  · rw [he] at h; grind
  · have := ln_mono (a := a) hs (show y < x by grind); grind

/-- the exchanged curve leads back -/
theorem ex_back {l : List Pt} (h : Asc l) (hl : 2 ≤ l.length) (x : Rat) : cv (ex l) (cv l x) = x := by
  obtain ⟨i, p, q, hp, hq, h1, h2⟩ := seg l x hl
  have hv := ev_at l i x p q h hp hq h1 h2
  obtain ⟨a1, a2⟩ := pair_asc h hp hq
  have hs := sl_pos a1 a2
  have hp' : (ex l)[i]? = some (p.2, p.1) := by unfold ex; rw [List.getElem?_map, hp]; rfl
  have hq' : (ex l)[i + 1]? = some (q.2, q.1) := by unfold ex; rw [List.getElem?_map, hq]; rfl
  have e1 : ln p (sl p q) p.1 = p.2 := ln_at p _
  have e2 : ln p (sl p q) q.1 = q.2 := (ln_sl a1).symm
  rw [hv, ev_at (ex l) i _ (p.2, p.1) (q.2, q.1) (ex_asc h) hp' hq' (by
    rcases h1 with h1 | h1
    · exact .inl h1
    · right; dsimp only; rw [← e1]; exact ln_mono hs h1) (by
    rcases h2 with h2 | h2
    · left; rw [ex_len]; exact h2
    · right; dsimp only; rw [← e2]
      apply Rat.not_lt.1
      intro hc
      have := (ln_lt hs).1 hc
      grind)]
  unfold ln sl
  dsimp only
  have n1 : q.1 - p.1 ≠ 0 := by grind
  have n2 : q.2 - p.2 ≠ 0 := by grind
  grind

theorem ex_forth {l : List Pt} (h : Asc l) (hl : 2 ≤ l.length) (y : Rat) : cv l (cv (ex l) y) = y := by
  have := ex_back (ex_asc h) (by rw [ex_len]; exact hl) y
  rwa [ex_ex] at this

/-- the inverse of a line -/
theorem cv_two (p q : Pt) (x : Rat) : cv [p, q] x = ln p (sl p q) x := by unfold cv; rw [if_pos (.inl rfl)]
end Go.Pure
