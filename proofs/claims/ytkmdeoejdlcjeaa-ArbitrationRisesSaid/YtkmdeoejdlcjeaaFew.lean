/- Small lists of marks; laws on verdicts. -/
import Derived.Test.YtkmdeoejdlcjeaaArb
namespace Go.Proofs.Ytkmdeoejdlcjeaa
open Go.Ab

/-- marks as the statements make them -/
def GOk (g : GGiven) : Prop := (1 ≤ g.Level ∧ g.Level ≤ 3) ∧ (-1 ≤ g.Value ∧ g.Value ≤ 6)

/-- sources' numbers fall strictly: no two stamps are the same -/
def Falls (l : List GGiven) : Prop := l.Pairwise fun a b => b.Stamp.Seq < a.Stamp.Seq

def FewOk (l : List GGiven) : Prop := l.length ≤ 4 ∧ (∀ g ∈ l, GOk g) ∧ Falls l

theorem c_few (d : GmarkDice) (hd : DOk d) : ∃ (l : List GGiven) (d' : GmarkDice), cw f_law30_few [.loc 1000 2 0 0] (mD d) = some (r_law30_few.enc (l, d')) ∧ FewOk l ∧ DOk d' := by
  have loop : ∀ (k : Nat) (acc : List GGiven) (d : GmarkDice), DOk d → acc.length + k ≤ 4 → (∀ g ∈ acc, GOk g ∧ (k : Int) < g.Stamp.Seq) → Falls acc →
      ∃ (l : List GGiven) (d' : GmarkDice), k_law30_few_1 (List.map dGGiven.enc acc) d (k : Int) = some (r_law30_few.enc (l, d')) ∧ FewOk l ∧ DOk d' := by
    intro k
    induction k with
    | zero =>
      intro acc d hd hlen hg hf
      refine ⟨acc, d, t_law30_few_1 _ d _ ?_, ⟨by omega, fun g h => (hg g h).1, hf⟩, hd⟩
      rw [brn_dec, if_neg (by omega), chk_pos rfl]
    | succ k ih =>
      intro acc d hd hlen hg hf
      obtain ⟨a, d1, h1, ha, hd1⟩ := c_Pick d [1, 1, 1, 2, 3] hd (by simp) (by simp)
      obtain ⟨b, d2, h2, hb0, hb1, hd2⟩ := c_Next d1 8 hd1 (by omega)
      obtain ⟨c, d3, h3, hc0, hc1, hd3⟩ := c_Next d2 9 hd2 (by omega)
      have e1 : w64 (10 - ((k + 1 : Nat) : Int)) = 10 - ((k + 1 : Nat) : Int) := w64_id (by omega) (by omega)
      have e2 : w64 (b - 1) = b - 1 := w64_id (by omega) (by omega)
      have e3 : w64 (((k + 1 : Nat) : Int) - 1) = (k : Int) := by rw [w64_id (by omega) (by omega)]; omega
      have ha' : a = 1 ∨ a = 2 ∨ a = 3 := by simpa [or_assoc] using ha
      obtain ⟨l, d', h4, h5, h6⟩ := ih (acc ++ [⟨0, 0, 10 - ((k + 1 : Nat) : Int), a, b - 1, ⟨c, 10 - ((k + 1 : Nat) : Int), ((k + 1 : Nat) : Int)⟩⟩]) d3 hd3 (by simp; omega)
        (by
          intro g hgm
          rcases List.mem_append.1 hgm with h | h
          · have := hg g h; exact ⟨this.1, by omega⟩
          · rw [List.mem_singleton.1 h]
            refine ⟨⟨?_, ?_⟩, ?_⟩
            · show 1 ≤ a ∧ a ≤ 3; omega
            · show -1 ≤ b - 1 ∧ b - 1 ≤ 6; omega
            · show (k : Int) < ((k + 1 : Nat) : Int); omega)
        (by
          unfold Falls
          rw [List.pairwise_append]
          refine ⟨hf, by simp, fun x hx y hy => ?_⟩
          rw [List.mem_singleton.1 hy]
          exact (hg x hx).2)
      refine ⟨l, d', t_law30_few_1 _ d _ ?_, h5, h6⟩
      rw [brn_dec, if_pos (by omega), callD_of h1, callD_of h2, callD_of h3, chk_pos rfl, chk_pos (by simp; omega), chk_pos rfl, e1, e3]
      show k_law30_few_1 (List.map dGGiven.enc acc ++ [dGGiven.enc ⟨0, 0, 10 - ((k + 1 : Nat) : Int), a, w64 (b - 1), ⟨c, 10 - ((k + 1 : Nat) : Int), ((k + 1 : Nat) : Int)⟩⟩]) d3 (k : Int) = _
      rw [e2, ← h4, List.map_append]
      rfl
  obtain ⟨r, d1, h1, h0, h2, hd1⟩ := c_Next d 5 hd (by omega)
  obtain ⟨l, d', h3, h4, h5⟩ := loop r.toNat [] d1 hd1 (by simp; omega) (by simp) List.Pairwise.nil
  refine ⟨l, d', e_law30_few d ?_, h4, h5⟩
  rw [callD_of h1]
  rw [Int.toNat_of_nonneg h0] at h3
  exact h3

theorem c_sane : cw f_law30_sane [] [] = some (r_law30_sane.enc true) := acall_le_callw 60 _ _ _ _ (by kernel_rfl)

/-! ## orders of stamps -/

def lexLe (a b : GStamp) : Prop := a.Time < b.Time ∨ (a.Time = b.Time ∧ (a.Source < b.Source ∨ (a.Source = b.Source ∧ a.Seq ≤ b.Seq)))

theorem cmpS_nonneg (a b : GStamp) : 0 ≤ cmpS a b ↔ lexLe b a := by
  unfold cmpS lexLe firstNZ firstNZ firstNZ firstNZ cmpI
  repeat' split
  all_goals omega

/-- not less: level, then stamp -/
def geq (b g : GGiven) : Prop := g.Level < b.Level ∨ (g.Level = b.Level ∧ lexLe g.Stamp b.Stamp)

theorem geq_refl (g : GGiven) : geq g g := by unfold geq lexLe; omega
theorem geq_trans {a b c : GGiven} (h : geq a b) (h' : geq b c) : geq a c := by unfold geq lexLe at *; omega
theorem geq_total {a b : GGiven} (h : ¬ geq a b) : geq b a := by unfold geq lexLe at *; omega
theorem geq_anti {a b : GGiven} (h : geq a b) (h' : geq b a) : a.Stamp.Seq = b.Stamp.Seq := by unfold geq lexLe at *; omega

/-- what decisive gives -/
def Best (l : List GGiven) (b : GGiven × Bool) : Prop :=
  (b.2 = false ∧ ∀ g ∈ l, g.Level < 2) ∨ (b.2 = true ∧ b.1 ∈ l ∧ 2 ≤ b.1.Level ∧ ∀ g ∈ l, 2 ≤ g.Level → geq b.1 g)

theorem best_step (l : List GGiven) (b : GGiven × Bool) (g : GGiven) (h : Best l b) : Best (l ++ [g]) (stepD b g) := by
  unfold stepD
  by_cases h1 : g.Level < 2
  · rw [if_pos h1]
    rcases h with ⟨h2, h3⟩ | ⟨h2, h3, h4, h5⟩
    · refine .inl ⟨h2, fun x hx => ?_⟩
      rcases List.mem_append.1 hx with hx | hx
      · exact h3 x hx
      · rw [List.mem_singleton.1 hx]; exact h1
    · refine .inr ⟨h2, by simp [h3], h4, fun x hx hl => ?_⟩
      rcases List.mem_append.1 hx with hx | hx
      · exact h5 x hx hl
      · rw [List.mem_singleton.1 hx] at hl; omega
  · rw [if_neg h1]
    rcases h with ⟨h2, h3⟩ | ⟨h2, h3, h4, h5⟩
    · rw [if_pos (.inl h2)]
      refine .inr ⟨rfl, by simp, by show 2 ≤ g.Level; omega, fun x hx hl => ?_⟩
      rcases List.mem_append.1 hx with hx | hx
      · have := h3 x hx; omega
      · rw [List.mem_singleton.1 hx]; exact geq_refl g
    · by_cases h6 : geq g b.1
      · rw [if_pos (by
          rcases h6 with h6 | ⟨h6, h7⟩
          · exact .inr (.inl h6)
          · exact .inr (.inr ⟨h6.symm, (cmpS_nonneg _ _).2 h7⟩))]
        refine .inr ⟨rfl, by simp, by show 2 ≤ g.Level; omega, fun x hx hl => ?_⟩
        rcases List.mem_append.1 hx with hx | hx
        · exact geq_trans h6 (h5 x hx hl)
        · rw [List.mem_singleton.1 hx]; exact geq_refl g
      · rw [if_neg (by
          rintro (h7 | h7 | ⟨h7, h8⟩)
          · rw [h2] at h7; cases h7
          · exact h6 (.inl h7)
          · exact h6 (.inr ⟨h7.symm, (cmpS_nonneg _ _).1 h8⟩))]
        refine .inr ⟨h2, by simp [h3], h4, fun x hx hl => ?_⟩
        rcases List.mem_append.1 hx with hx | hx
        · exact h5 x hx hl
        · rw [List.mem_singleton.1 hx]; exact geq_total h6

theorem best_decisive (l : List GGiven) : Best l (decisive l) := by
  have key : ∀ (r pre : List GGiven) (b : GGiven × Bool), Best pre b → Best (pre ++ r) (r.foldl stepD b) := by
    intro r
    induction r with
    | nil => intro pre b h; simpa using h
    | cons g r ih =>
      intro pre b h
      have := ih (pre ++ [g]) (stepD b g) (best_step pre b g h)
      simpa using this
  have := key l [] (⟨0, 0, 0, 0, 0, ⟨0, 0, 0⟩⟩, false) (.inl ⟨rfl, by simp⟩)
  simpa [decisive] using this

theorem falls_inj {l : List GGiven} (h : Falls l) {a b : GGiven} (ha : a ∈ l) (hb : b ∈ l) (e : a.Stamp.Seq = b.Stamp.Seq) : a = b := by
  unfold Falls at h
  induction l with
  | nil => cases ha
  | cons g l ih =>
    rw [List.pairwise_cons] at h
    rcases List.mem_cons.1 ha with ha' | ha'
    · rcases List.mem_cons.1 hb with hb' | hb'
      · rw [ha', hb']
      · have := h.1 b hb'; rw [ha'] at e; omega
    · rcases List.mem_cons.1 hb with hb' | hb'
      · have := h.1 a ha'; rw [hb'] at e; omega
      · exact ih h.2 ha' hb'

/-- lists with the same members have the same decisive mark -/
theorem decisive_same {l m : List GGiven} (h : Falls l) (hm : ∀ g, g ∈ m → g ∈ l) (htop : ∀ g, g ∈ l → 2 ≤ g.Level → ∃ g' ∈ m, 2 ≤ g'.Level ∧ geq g' g) :
    (decisive m).2 = (decisive l).2 ∧ ((decisive l).2 = true → (decisive m).1 = (decisive l).1) := by
  rcases best_decisive l with ⟨h1, h2⟩ | ⟨h1, h2, h3, h4⟩
  · rcases best_decisive m with ⟨k1, k2⟩ | ⟨k1, k2, k3, k4⟩
    · exact ⟨by rw [h1, k1], fun e => by rw [h1] at e; cases e⟩
    · have := h2 _ (hm _ k2); omega
  · obtain ⟨g', q1, q2, q3⟩ := htop _ h2 h3
    rcases best_decisive m with ⟨k1, k2⟩ | ⟨k1, k2, k3, k4⟩
    · have := k2 g' q1; omega
    · refine ⟨by rw [h1, k1], fun _ => falls_inj h (hm _ k2) h2 ?_⟩
      exact geq_anti (geq_trans (k4 g' q1 q2) q3) (h4 _ (hm _ k2) k3)

/-! ## least, greatest, sum -/

theorem minW_spec (l : List GGiven) : ∀ (m : Int), minW l m ≤ m ∧ (∀ g ∈ l, minW l m ≤ worth g) ∧ (minW l m = m ∨ ∃ g ∈ l, minW l m = worth g) := by
  induction l with
  | nil => intro m; simp [minW]
  | cons g r ih =>
    intro m
    have e : minW (g :: r) m = minW r (if worth g < m then worth g else m) := rfl
    by_cases hc : worth g < m
    · rw [e, if_pos hc]
      obtain ⟨h1, h2, h3⟩ := ih (worth g)
      refine ⟨by omega, fun x hx => ?_, ?_⟩
      · rcases List.mem_cons.1 hx with hx | hx
        · rw [hx]; exact h1
        · exact h2 x hx
      · rcases h3 with h3 | ⟨x, hx, h3⟩
        · exact .inr ⟨g, by simp, h3⟩
        · exact .inr ⟨x, by simp [hx], h3⟩
    · rw [e, if_neg hc]
      obtain ⟨h1, h2, h3⟩ := ih m
      refine ⟨h1, fun x hx => ?_, ?_⟩
      · rcases List.mem_cons.1 hx with hx | hx
        · rw [hx]; omega
        · exact h2 x hx
      · rcases h3 with h3 | ⟨x, hx, h3⟩
        · exact .inl h3
        · exact .inr ⟨x, by simp [hx], h3⟩

theorem maxW_spec (l : List GGiven) : ∀ (m : Int), m ≤ maxW l m ∧ (∀ g ∈ l, worth g ≤ maxW l m) ∧ (maxW l m = m ∨ ∃ g ∈ l, maxW l m = worth g) := by
  induction l with
  | nil => intro m; simp [maxW]
  | cons g r ih =>
    intro m
    have e : maxW (g :: r) m = maxW r (if m < worth g then worth g else m) := rfl
    by_cases hc : m < worth g
    · rw [e, if_pos hc]
      obtain ⟨h1, h2, h3⟩ := ih (worth g)
      refine ⟨by omega, fun x hx => ?_, ?_⟩
      · rcases List.mem_cons.1 hx with hx | hx
        · rw [hx]; exact h1
        · exact h2 x hx
      · rcases h3 with h3 | ⟨x, hx, h3⟩
        · exact .inr ⟨g, by simp, h3⟩
        · exact .inr ⟨x, by simp [hx], h3⟩
    · rw [e, if_neg hc]
      obtain ⟨h1, h2, h3⟩ := ih m
      refine ⟨h1, fun x hx => ?_, ?_⟩
      · rcases List.mem_cons.1 hx with hx | hx
        · rw [hx]; omega
        · exact h2 x hx
      · rcases h3 with h3 | ⟨x, hx, h3⟩
        · exact .inl h3
        · exact .inr ⟨x, by simp [hx], h3⟩

theorem sumW_append (l m : List GGiven) : sumW (l ++ m) = sumW l + sumW m := by
  induction l with
  | nil => simp [sumW]
  | cons g r ih => rw [List.cons_append, sumW_cons, sumW_cons, ih]; omega

theorem sumW_reverse (l : List GGiven) : sumW l.reverse = sumW l := by
  induction l with
  | nil => rfl
  | cons g r ih => rw [List.reverse_cons, sumW_append, ih, sumW_cons, sumW_cons]; simp [sumW]; omega

/-- the verdict in one piece -/
theorem decideV_eq (r : GMarkRule) (l : List GGiven) (x : GGiven) (hx : x ∈ l) : decideV r l =
    if (decisive l).2 = true then ⟨3, worth (decisive l).1⟩
    else if l.length = 1 then (if r.Double = true then ⟨1, 0⟩ else ⟨3, worth x⟩)
    else if r.Tolerance < maxW l (worth x) - minW l (worth x) then ⟨2, 0⟩ else ⟨3, mean l⟩ := by
  unfold decideV
  split
  · rfl
  · match l, hx with
    | [g], hx => rw [List.mem_singleton.1 hx]; rfl
    | g :: g' :: t, hx =>
      simp only [List.length_cons, show ¬ (t.length + 1 + 1 = 1) by omega, if_false]
      have a1 := minW_spec (g :: g' :: t) (worth g)
      have a2 := minW_spec (g :: g' :: t) (worth x)
      have b1 := maxW_spec (g :: g' :: t) (worth g)
      have b2 := maxW_spec (g :: g' :: t) (worth x)
      have e1 : minW (g :: g' :: t) (worth g) = minW (g :: g' :: t) (worth x) := by
        have c1 := a1.2.1 x hx
        have c2 := a2.2.1 g (by simp)
        have c3 : minW (g :: g' :: t) (worth x) ≤ minW (g :: g' :: t) (worth g) := by
          rcases a1.2.2 with e | ⟨y, hy, e⟩
          · rw [e]; exact c2
          · rw [e]; exact a2.2.1 y hy
        have c4 : minW (g :: g' :: t) (worth g) ≤ minW (g :: g' :: t) (worth x) := by
          rcases a2.2.2 with e | ⟨y, hy, e⟩
          · rw [e]; exact c1
          · rw [e]; exact a1.2.1 y hy
        omega
      have e2 : maxW (g :: g' :: t) (worth g) = maxW (g :: g' :: t) (worth x) := by
        have c1 := b1.2.1 x hx
        have c2 := b2.2.1 g (by simp)
        have c3 : maxW (g :: g' :: t) (worth g) ≤ maxW (g :: g' :: t) (worth x) := by
          rcases b1.2.2 with e | ⟨y, hy, e⟩
          · rw [e]; exact c2
          · rw [e]; exact b2.2.1 y hy
        have c4 : maxW (g :: g' :: t) (worth x) ≤ maxW (g :: g' :: t) (worth g) := by
          rcases b2.2.2 with e | ⟨y, hy, e⟩
          · rw [e]; exact c1
          · rw [e]; exact b1.2.1 y hy
        omega
      rw [e1, e2]
end Go.Proofs.Ytkmdeoejdlcjeaa
