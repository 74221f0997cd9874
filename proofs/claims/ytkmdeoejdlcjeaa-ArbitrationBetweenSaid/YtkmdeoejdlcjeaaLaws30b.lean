/- The statement on verdicts: between. -/
import Derived.Test.YtkmdeoejdlcjeaaLaws30a
namespace Go.Proofs.Ytkmdeoejdlcjeaa
open Go.Ab

def lvl (l : List GGiven) (m : Int) : Int := l.foldl (fun m g => if m < g.Level then g.Level else m) m

theorem lvl_spec (l : List GGiven) : ∀ (m : Int), m ≤ lvl l m ∧ (∀ g ∈ l, g.Level ≤ lvl l m) ∧ (lvl l m = m ∨ ∃ g ∈ l, lvl l m = g.Level) := by
  induction l with
  | nil => intro m; simp [lvl]
  | cons g r ih =>
    intro m
    have e : lvl (g :: r) m = lvl r (if m < g.Level then g.Level else m) := rfl
    by_cases hc : m < g.Level
    · rw [e, if_pos hc]
      obtain ⟨h1, h2, h3⟩ := ih g.Level
      refine ⟨by omega, fun x hx => ?_, ?_⟩
      · rcases List.mem_cons.1 hx with hx | hx
        · rw [hx]; exact h1
        · exact h2 x hx
      · rcases h3 with h3 | ⟨x, hx, h3⟩
        · exact .inr ⟨g, by simp, h3⟩
        · exact .inr ⟨x, by simp [hx], h3⟩
    · rw [e, if_neg hc]
      obtain ⟨h1, h2, h3⟩ := ih m
      refine ⟨h1, fun x hx => ?_, ?_⟩
      · rcases List.mem_cons.1 hx with hx | hx
        · rw [hx]; omega
        · exact h2 x hx
      · rcases h3 with h3 | ⟨x, hx, h3⟩
        · exact .inl h3
        · exact .inr ⟨x, by simp [hx], h3⟩

theorem sumW_ge (l : List GGiven) (M : Int) (h : ∀ g ∈ l, M ≤ worth g) : l.length * M ≤ sumW l := by
  induction l with
  | nil => simp [sumW]
  | cons g r ih =>
    have h1 := ih (fun g hg => h g (by simp [hg]))
    have h2 := h g (by simp)
    rw [sumW_cons, List.length_cons]
    have : ((r.length + 1 : Nat) : Int) * M = r.length * M + M := by
      rw [Int.natCast_add, Int.add_mul]; simp
    omega

/-- the mean lies between the least and the greatest -/
theorem mean_between (l : List GGiven) (hne : l ≠ []) (a b : Int) (ha : ∀ g ∈ l, a ≤ worth g) (hb : ∀ g ∈ l, worth g ≤ b) : a ≤ mean l ∧ mean l ≤ b := by
  have hpos : 0 < l.length := List.length_pos_iff.2 hne
  have h1 := sumW_ge l a ha
  have h2 := sumW_le l b hb
  have h0 := sumW_nonneg l
  have hn : (0 : Int) < l.length := by omega
  unfold mean
  generalize (l.length : Int) = n at *
  have e := Int.mul_tdiv_add_tmod (sumW l) n
  have r1 := Int.tmod_nonneg n h0
  have r2 := Int.tmod_lt_of_pos (sumW l) hn
  generalize (sumW l).tdiv n = q at *
  generalize (sumW l).tmod n = m at *
  have lower : a ≤ q := by
    apply Int.not_lt.1
    intro hlt
    have := Int.mul_le_mul_of_nonneg_left (show q + 1 ≤ a by omega) (show 0 ≤ n by omega)
    rw [Int.mul_add] at this
    omega
  have upper : q ≤ b := by
    apply Int.not_lt.1
    intro hlt
    have := Int.mul_le_mul_of_nonneg_left (show b + 1 ≤ q by omega) (show 0 ≤ n by omega)
    rw [Int.mul_add] at this
    omega
  split
  · rename_i hr
    refine ⟨by omega, ?_⟩
    apply Int.not_lt.1
    intro hlt
    have := Int.mul_le_mul_of_nonneg_left (show b ≤ q by omega) (show 0 ≤ n by omega)
    omega
  · exact ⟨lower, upper⟩

theorem worth_le {l : List GGiven} (h : FewOk l) : ∀ g ∈ l, worth g ≤ 6 := fun g hg => by have := (h.2.1 g hg).2; unfold worth; split <;> omega

/-- what is said of a final verdict -/
theorem between_facts (r : GMarkRule) (l : List GGiven) (hl : FewOk l) (hr : 0 ≤ r.Tolerance) :
    ((decideV r l).State ≠ 3 → (decideV r l).Value = 0 ∧ lvl l 0 < 2) ∧
    ((decideV r l).State = 3 → minW l 99 ≤ (decideV r l).Value ∧ (decideV r l).Value ≤ maxW l (-1) ∧ (lvl l 0 < 2 → 1 < l.length → maxW l (-1) - minW l 99 ≤ r.Tolerance) ∧
      (lvl l 0 < 2 → 1 < l.length ∨ r.Double = false) ∧ (lvl l 0 < 2 → 2 * (decideV r l).Value - minW l 99 - maxW l (-1) ≤ r.Tolerance + 1) ∧ 0 ≤ (decideV r l).Value ∧ (decideV r l).Value ≤ 6 ∧ l ≠ []) := by
  have hL := lvl_spec l 0
  have hA := minW_spec l 99
  have hB := maxW_spec l (-1)
  have hD := best_decisive l
  have hnot : (decisive l).2 = false → lvl l 0 < 2 := by
    intro hd
    rcases hD with ⟨_, h2⟩ | ⟨h1, _⟩
    · rcases hL.2.2 with e | ⟨g, hg, e⟩
      · omega
      · have := h2 g hg; omega
    · rw [hd] at h1; cases h1
  have hyes : (decisive l).2 = true → 2 ≤ lvl l 0 := by
    intro hd
    rcases hD with ⟨h1, _⟩ | ⟨_, h2, h3, _⟩
    · rw [hd] at h1; cases h1
    · have := hL.2.1 _ h2; omega
  cases l with
  | nil => exact ⟨fun _ => ⟨rfl, by simp [lvl]⟩, fun h => by simp [decideV, decisive] at h⟩
  | cons x t =>
    generalize hM : x :: t = M at *
    have hx : x ∈ M := by rw [← hM]; simp
    have hne : M ≠ [] := by rw [← hM]; simp
    have hlen : 0 < M.length := List.length_pos_iff.2 hne
    have hw0 : ∀ g ∈ M, 0 ≤ worth g := fun g _ => worth_nonneg g
    have hw6 := worth_le hl
    rw [decideV_eq r M x hx]
    cases hd : (decisive M).2 with
    | true =>
      have hlv := hyes hd
      rw [if_pos rfl]
      have hb : (decisive M).1 ∈ M := by
        rcases hD with ⟨h1, _⟩ | ⟨_, h2, _⟩
        · rw [hd] at h1; cases h1
        · exact h2
      refine ⟨fun h => absurd rfl h, fun _ => ⟨hA.2.1 _ hb, hB.2.1 _ hb, fun h => by omega, fun h => by omega, fun h => by omega, worth_nonneg _, hw6 _ hb, hne⟩⟩
    | false =>
      have hlv := hnot hd
      rw [if_neg (by simp)]
      by_cases h1 : M.length = 1
      · rw [if_pos h1]
        cases hdb : r.Double with
        | true => rw [if_pos rfl]; exact ⟨fun _ => ⟨rfl, hlv⟩, fun h => by simp at h⟩
        | false =>
          rw [if_neg (by simp)]
          have hone : M = [x] := by
            rw [← hM] at h1 ⊢
            simp at h1
            rw [h1]
          have ea : minW M 99 = worth x := by
            have := hw6 x hx
            rw [hone]
            show (if worth x < 99 then worth x else 99) = worth x
            rw [if_pos (by omega)]
          have eb : maxW M (-1) = worth x := by
            have := hw0 x hx
            rw [hone]
            show (if -1 < worth x then worth x else -1) = worth x
            rw [if_pos (by omega)]
          refine ⟨fun h => absurd rfl h, fun _ => ⟨hA.2.1 _ hx, hB.2.1 _ hx, fun _ h => by omega, fun _ => .inr rfl, fun _ => ?_, hw0 x hx, hw6 x hx, hne⟩⟩
          show 2 * worth x - minW M 99 - maxW M (-1) ≤ r.Tolerance + 1
          omega
      · rw [if_neg h1]
        by_cases h2 : r.Tolerance < maxW M (worth x) - minW M (worth x)
        · rw [if_pos h2]; exact ⟨fun _ => ⟨rfl, hlv⟩, fun h => by simp at h⟩
        · rw [if_neg h2]
          have hm := mean_between M hne (minW M 99) (maxW M (-1)) hA.2.1 hB.2.1
          have hm2 := mean_between M hne 0 6 hw0 hw6
          have sA := minW_spec M (worth x)
          have sB := maxW_spec M (worth x)
          have qa : minW M (worth x) ≤ minW M 99 := by
            rcases hA.2.2 with e | ⟨y, hy, e⟩
            · have := hA.2.1 x hx; have := hw6 x hx; omega
            · rw [e]; exact sA.2.1 y hy
          have qb : maxW M (-1) ≤ maxW M (worth x) := by
            rcases hB.2.2 with e | ⟨y, hy, e⟩
            · have := hB.2.1 x hx; have := hw0 x hx; omega
            · rw [e]; exact sB.2.1 y hy
          refine ⟨fun h => absurd rfl h, fun _ => ⟨hm.1, hm.2, fun _ _ => by omega, fun _ => .inl (Nat.lt_of_le_of_ne (Nat.succ_le_of_lt hlen) (fun e => h1 e.symm)), fun _ => ?_, hm2.1, hm2.2, hne⟩⟩
          show 2 * mean M - minW M 99 - maxW M (-1) ≤ r.Tolerance + 1
          omega

theorem lvl_le {l : List GGiven} (h : FewOk l) : 0 ≤ lvl l 0 ∧ lvl l 0 ≤ 3 := by
  have hL := lvl_spec l 0
  refine ⟨hL.1, ?_⟩
  rcases hL.2.2 with e | ⟨g, hg, e⟩
  · omega
  · have := (h.2.1 g hg).1; omega

theorem law_Between (t : List Int) : cw f_law30_ArbitrationBetween [.sl 1 (List.map dI_i64.enc t)] [] = some (r_law30_ArbitrationBetween.enc true) := by
  refine e_law30_ArbitrationBetween t ?_
  rw [callD_of (c_Light t), callD_of c_sane]
  by_cases ht : (t.length : Int) ≤ 600
  case neg => rw [decide_eq_false ht]; rfl
  rw [decide_eq_true ht, Bool.not_true, brn_false, callD_of (c_Roll t)]
  obtain ⟨r, d1, h1, hr0, hr1, hd1⟩ := c_Rule ⟨t, 0⟩ ⟨Int.le_refl _, by show t.length ≤ 600; omega⟩
  obtain ⟨l, d2, h2, hl, hd2⟩ := c_few d1 hd1
  rw [callD_of h1, callD_of h2, chk_pos (by omega), List.take_length, callD_of (c_Decide r l (by have := hl.1; omega) (few_vals hl))]
  have hlen := hl.1
  have hF := between_facts r l hl hr0
  have hA := minW_spec l 99
  have hB := maxW_spec l (-1)
  have hLs := lvl_spec l 0
  have hLl := lvl_le hl
  have hw6 := worth_le hl
  have bA : 0 ≤ minW l 99 ∧ minW l 99 ≤ 99 := ⟨(minW_bd l 99 (by omega)).1, hA.1⟩
  have bB : -1 ≤ maxW l (-1) ∧ maxW l (-1) ≤ 6 := ⟨hB.1, (maxW_bd l 6 hw6 (-1) (by omega)).2⟩
  -- the marks of the greatest level
  have second : 2 ≤ lvl l 0 → ∀ (acc : List GGiven), True → k_law30_ArbitrationBetween_2 (r, d1) (l, d2) (decideV r l) (lvl l 0) (List.map dGGiven.enc []) 0 = some (r_law30_ArbitrationBetween.enc true) := by
    intro hlv _ _
    refine range_ind l (fun i s => ∀ (acc : List GGiven), acc ++ s.filter (fun g => g.Level == lvl l 0) = l.filter (fun g => g.Level == lvl l 0) →
      k_law30_ArbitrationBetween_2 (r, d1) (l, d2) (decideV r l) (lvl l 0) (List.map dGGiven.enc acc) (i : Nat) = some (r_law30_ArbitrationBetween.enc true)) ?_ ?_ [] (by simp)
    · intro acc he
      have he' : acc = l.filter (fun g => g.Level == lvl l 0) := by simpa using he
      have hsub : ∀ g, g ∈ acc → g ∈ l := fun g hg => by rw [he'] at hg; exact (List.mem_filter.1 hg).1
      have hal : acc.length ≤ l.length := by rw [he']; exact List.length_filter_le _ _
      refine t_law30_ArbitrationBetween_2 _ _ _ _ _ _ ?_
      rw [List.length_map, brn_dec, if_neg (by show ¬ ((l.length : Int) < l.length); omega), chk_pos (by omega), List.take_of_length_le (by simp), callD_of (c_Decide r acc (by omega) (fun g hg => few_vals hl g (hsub g hg))), callD_of c_sane]
      have hd : (decisive l).2 = true := by
        rcases best_decisive l with ⟨_, q2⟩ | ⟨q1, _⟩
        · rcases hLs.2.2 with e | ⟨g, hg, e⟩
          · omega
          · have := q2 g hg; omega
        · exact q1
      have hsame := decisive_same (m := acc) hl.2.2 hsub (fun g hg hg2 => by
        by_cases hgl : g.Level = lvl l 0
        · exact ⟨g, by rw [he']; exact List.mem_filter.2 ⟨hg, by simpa using hgl⟩, hg2, geq_refl g⟩
        · rcases hLs.2.2 with e | ⟨g0, hg0, e⟩
          · omega
          · exact ⟨g0, by rw [he']; exact List.mem_filter.2 ⟨hg0, by simpa using e.symm⟩, by omega, .inl (by have := hLs.2.1 g hg; omega)⟩)
      have hv : decideV r acc = decideV r l := by
        unfold decideV
        rw [hsame.1, hd, if_pos rfl, if_pos rfl, hsame.2 hd]
      rw [hv]
      simp
    · intro i x s hi hx hr' ih acc he
      refine t_law30_ArbitrationBetween_2 _ _ _ _ _ _ ?_
      have hal : acc.length ≤ l.length := by
        have := congrArg List.length he
        have h3 := List.length_filter_le (fun g : GGiven => g.Level == lvl l 0) l
        simp only [List.length_append] at this
        omega
      rw [List.length_map, brn_dec, if_pos (by show (i : Int) < l.length; omega), chk_pos (by omega), chk_pos (by show (i : Int) < l.length; omega), Nat.zero_add, Int.toNat_natCast, elemD_get (D := dGGiven) (l := l) hi, hx, chk_pos rfl,
        chk_pos (by rw [List.length_map]; omega), chk_pos rfl, w64_id (by omega) (by omega)]
      have e1 : ((i : Int) + 1) = ((i + 1 : Nat) : Int) := by omega
      rw [e1]
      by_cases hxl : x.Level = lvl l 0
      · have hb : (x.Level == lvl l 0) = true := by simpa using hxl
        rw [hb, brn_true]
        have := ih (acc ++ [x]) (by rw [← he, List.filter_cons, if_pos hb]; simp)
        rw [List.map_append] at this
        exact this
      · have hb : (x.Level == lvl l 0) = false := by simpa using hxl
        rw [hb, brn_false]
        exact ih acc (by rw [← he, List.filter_cons, if_neg (by simpa using hxl)])
  -- least, greatest, level
  refine range_ind l (fun i s => ∀ (a b c : Int), minW s a = minW l 99 → maxW s b = maxW l (-1) → lvl s c = lvl l 0 →
      k_law30_ArbitrationBetween_1 (r, d1) (l, d2) (decideV r l) a b c (i : Nat) = some (r_law30_ArbitrationBetween.enc true)) ?_ ?_ 99 (-1) 0 rfl rfl rfl
  · intro a b c ha hb hc
    have ha' : a = minW l 99 := ha
    have hb' : b = maxW l (-1) := hb
    have hc' : c = lvl l 0 := hc
    subst ha' hb' hc'
    refine t_law30_ArbitrationBetween_1 _ _ _ _ _ _ _ ?_
    rw [List.length_map, brn_dec, if_neg (by show ¬ ((l.length : Int) < l.length); omega), callD_of c_sane]
    by_cases hs : (decideV r l).State = 3
    · obtain ⟨f1, f2, f3, f4, f5, f6, f7, f8⟩ := hF.2 hs
      have hlpos : 0 < l.length := List.length_pos_iff.2 f8
      have hbne : ((decideV r l).State != 3) = false := by simp [hs]
      have third : k_law30_ArbitrationBetween_1016 (r, d1) (l, d2) (decideV r l) (minW l 99) (maxW l (-1)) (lvl l 0) = some (r_law30_ArbitrationBetween.enc true) := by
        refine t_law30_ArbitrationBetween_1016 _ _ _ _ _ _ ?_
        rw [brn_dec, callD_of c_sane]
        by_cases hlv : 1 < lvl l 0
        · rw [if_pos hlv]; exact second (by omega) [] trivial
        · rw [if_neg hlv, List.length_map, brn_dec, w64_id (n := 2 * (decideV r l).Value) (by omega) (by omega), w64_id (n := 2 * (decideV r l).Value - minW l 99) (by omega) (by omega), w64_id (n := 2 * (decideV r l).Value - minW l 99 - maxW l (-1)) (by omega) (by omega),
            w64_id (n := r.Tolerance + 1) (by omega) (by omega), brn_dec, if_pos (f5 (by omega))]
          rcases f4 (by omega) with h | h
          · rw [if_pos (by show 1 < (l.length : Int); omega)]
          · show (if 1 < (l.length : Int) then _ else brn (!r.Double) _ _) = _
            rw [h]
            split <;> rfl
      rw [hbne, brn_false, brn_dec, if_neg (by omega), brn_dec, if_neg (by omega), third, brn_dec, brn_dec, w64_id (n := maxW l (-1) - minW l 99) (by omega) (by omega), brn_dec]
      by_cases hlv : lvl l 0 < 2
      · rw [if_pos hlv]
        by_cases hn : 1 < l.length
        · rw [if_pos (by show 1 < (l.length : Int); omega), if_neg (by have := f3 hlv hn; show ¬ r.Tolerance < _; omega)]
        · rw [if_neg (by show ¬ 1 < (l.length : Int); omega)]
      · rw [if_neg hlv]
    · obtain ⟨f1, f2⟩ := hF.1 hs
      have hbne : ((decideV r l).State != 3) = true := by simpa using hs
      rw [hbne, brn_true, f1, brn_dec, if_pos f2]
      rfl
  · intro i x s hi hx hr' ih a b c ha hb hc
    refine t_law30_ArbitrationBetween_1 _ _ _ _ _ _ _ ?_
    rw [List.length_map, brn_dec, if_pos (by show (i : Int) < l.length; omega), chk_pos (by omega), chk_pos (by show (i : Int) < l.length; omega), Nat.zero_add, Int.toNat_natCast, elemD_get (D := dGGiven) (l := l) hi, hx, w64_id (by omega) (by omega)]
    have e1 : ((i : Int) + 1) = ((i + 1 : Nat) : Int) := by omega
    rw [e1]
    exact ih _ _ _ ha hb hc
end Go.Proofs.Ytkmdeoejdlcjeaa
