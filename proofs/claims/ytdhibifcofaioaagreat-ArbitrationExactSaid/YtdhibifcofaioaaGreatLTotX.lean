/- The law of totals. -/
import Derived.Test.YtdhibifcofaioaaGreatArb
namespace Go.Proofs.YtdhibifcofaioaaGreat
open Go.Ab
set_option linter.unusedSimpArgs false

theorem c_sane : cw f_law30_sane [] [] = some (q_law30_sane true) := by
  have d (r : GMarkRule) (l : List GGiven) (h : l.length ≤ 1000000) (hv : ∀ g ∈ l, g.Value ≤ 1099511627776) := c_Decide r l h hv
  have v1 : decideV ⟨true, 2⟩ [⟨0, 0, 0, 1, 5, ⟨0, 0, 0⟩⟩, ⟨0, 0, 0, 1, 6, ⟨0, 0, 0⟩⟩] = ⟨3, 6⟩ := rfl
  have v2 : decideV ⟨true, 2⟩ [⟨0, 0, 0, 1, 3, ⟨0, 0, 0⟩⟩, ⟨0, 0, 0, 1, 6, ⟨0, 0, 0⟩⟩] = ⟨2, 0⟩ := rfl
  have v3 : decideV ⟨true, 2⟩ [⟨0, 0, 0, 1, 7, ⟨0, 0, 0⟩⟩, ⟨0, 0, 0, 2, 4, ⟨0, 0, 0⟩⟩, ⟨0, 0, 0, 1, 7, ⟨0, 0, 0⟩⟩] = ⟨3, 4⟩ := rfl
  have v4 : decideV ⟨true, 2⟩ [⟨0, 0, 0, 1, 7, ⟨0, 0, 0⟩⟩] = ⟨1, 0⟩ := rfl
  have v5 : decideV ⟨true, 2⟩ [] = ⟨0, 0⟩ := rfl
  refine e_law30_sane ?_
  rw [d _ _ (by simp) (by simp), d _ _ (by simp) (by simp), d _ _ (by simp) (by simp), d _ _ (by simp) (by simp)]
  simp only [v1, v2, v3, v4, callD_arbitration_Decide]
  rw [d _ _ (by simp) (by simp)]
  simp only [v5, callD_arbitration_Decide, c_arbitration_Check, callD_arbitration_Check]
  rfl

theorem decisive_mem (l : List GGiven) (h : (decisive l).2 = true) : (decisive l).1 ∈ l := by
  have key : ∀ (r : List GGiven) (b : GGiven × Bool), (∀ g ∈ r, g ∈ l) → (b.2 = true → b.1 ∈ l) → (r.foldl stepD b).2 = true → (r.foldl stepD b).1 ∈ l := by
    intro r
    induction r with
    | nil => intro b _ hb h; exact hb h
    | cons g r ih =>
      intro b hr hb h
      refine ih (stepD b g) (fun x hx => hr x (by simp [hx])) ?_ h
      unfold stepD
      split
      · exact hb
      · split
        · intro _; exact hr g (by simp)
        · exact hb
  exact key l _ (fun _ h => h) (by simp) h

theorem mean_bd (l : List GGiven) (h0 : l ≠ []) (M : Int) (hw : ∀ g ∈ l, worth g ≤ M) : 0 ≤ mean l ∧ mean l ≤ M := by
  have hpos : 0 < l.length := List.length_pos_iff.2 h0
  have h1 := sumW_le l M hw
  have h2 := sumW_nonneg l
  have h3 : 0 ≤ (sumW l).tmod l.length := Int.tmod_nonneg _ h2
  have h4 : (sumW l).tmod l.length < l.length := Int.tmod_lt_of_pos _ (by omega)
  have h5 : 0 ≤ (sumW l).tdiv l.length := Int.tdiv_nonneg h2 (by omega)
  have h6 := Int.mul_tdiv_add_tmod (sumW l) l.length
  unfold mean
  split
  · refine ⟨by omega, ?_⟩
    by_cases hq : M ≤ (sumW l).tdiv l.length
    · have := Int.mul_le_mul_of_nonneg_left hq (show (0 : Int) ≤ (l.length : Int) by omega)
      omega
    · omega
  · refine ⟨h5, ?_⟩
    by_cases hq : M + 1 ≤ (sumW l).tdiv l.length
    · have := Int.mul_le_mul_of_nonneg_left hq (show (0 : Int) ≤ (l.length : Int) by omega)
      rw [Int.mul_add] at this
      omega
    · omega

theorem decideV_bd (r : GMarkRule) (l : List GGiven) (M : Int) (hM : 0 ≤ M) (hw : ∀ g ∈ l, worth g ≤ M) : (0 ≤ (decideV r l).State ∧ (decideV r l).State ≤ 3) ∧ 0 ≤ (decideV r l).Value ∧ (decideV r l).Value ≤ M := by
  unfold decideV
  split
  · rename_i h
    exact ⟨by simp, worth_nonneg _, hw _ (decisive_mem l h)⟩
  · split
    · exact ⟨by simp, by simp, by simpa using hM⟩
    · rename_i g _ 
      split
      · exact ⟨by simp, by simp, by simpa using hM⟩
      · exact ⟨by simp, worth_nonneg _, hw g (by simp)⟩
    · split
      · exact ⟨by simp, by simp, by simpa using hM⟩
      · exact ⟨by simp, mean_bd _ (by simp) M hw⟩

theorem closedAt_perm {p : GPaper} {c : GScheme} {a : List Int} {i : Nat} {y : GPart} (hy : p.Parts[i]? = some y) (ho : OkPart y) :
    0 ≤ (if 0 > closedAt p c a i then 0 else closedAt p c a i) ∧ (if 0 > closedAt p c a i then 0 else closedAt p c a i) ≤ y.Max ∧ PermP y (if 0 > closedAt p c a i then 0 else closedAt p c a i) := by
  have hm := ho.1
  have hk := kind2 ho
  have key : closedAt p c a i = y.Max ∧ y.Kind = 2 ∨ closedAt p c a i ≤ 0 := by
    unfold closedAt
    rw [hy]
    split
    · rename_i x ks v h1 h2 h3
      injection h1 with h1
      subst h1
      split
      · right; omega
      · split
        · left; exact ⟨rfl, by omega⟩
        · right; split <;> omega
    · right; omega
  unfold PermP
  rcases key with ⟨h1, h2⟩ | h1
  · rw [if_neg (by omega), if_pos h2, h1]
    exact ⟨by omega, by omega, by omega⟩
  · have : (if 0 > closedAt p c a i then 0 else closedAt p c a i) = 0 := by split <;> omega
    rw [this]
    refine ⟨by omega, by omega, ?_⟩
    split <;> omega

theorem verd_ok (r : GMarkRule) (s : GSetup) (hs : OkSetup s) (m : GMarking) (hg : ∀ g ∈ m.Given, GivenOk s g) (x : GScript) (hx : x ∈ s.Scripts) (k : Nat) (p : GPaper) (c : GScheme) (hk : paperIx s.Papers x = some (k, p)) (hc : s.Schemes[k]? = some c)
    (i : Nat) (y : GPart) (hy : p.Parts[i]? = some y) :
    (0 ≤ (verdAt r m x p c (seedOf s.Seeds x.Number) i).State ∧ (verdAt r m x p c (seedOf s.Seeds x.Number) i).State ≤ 3) ∧ 0 ≤ (verdAt r m x p c (seedOf s.Seeds x.Number) i).Value ∧ (verdAt r m x p c (seedOf s.Seeds x.Number) i).Value ≤ y.Max ∧ PermP y (verdAt r m x p c (seedOf s.Seeds x.Number) i).Value := by
  have hpk := (paperIx_at hk).1
  have hok := hs.schemes k p c hpk hc
  have hyo : OkPart y := hok.1.2.2.2.1 y (List.mem_of_getElem? hy)
  have hy1 := hyo.1
  have hlt := (List.getElem?_eq_some_iff.1 hy).1
  have hiw : i < c.Withdrawn.length := by have := hok.2.2.1; omega
  have hso := scriptOf_mem hs.scripts.2.2 hx
  have hpo : paperOf s x.Number = some (k, p) := by unfold paperOf; rw [hso]; exact hk
  unfold verdAt
  rw [hy, List.getElem?_eq_getElem hiw]
  dsimp only
  split
  · exact ⟨by simp, closedAt_perm hy hyo⟩
  · rename_i hn
    have hk1 : y.Kind = 1 := by have := kind2 hyo; omega
    have perm : ∀ v, 0 ≤ v → v ≤ y.Max → PermP y v := by
      intro v h0 h1
      unfold PermP
      rw [if_neg (by omega)]
      omega
    cases ho : seedOf s.Seeds x.Number with
    | some q =>
      obtain ⟨q, sd⟩ := q
      obtain ⟨k', p', hpo', hmk⟩ := seed_judge hs ho
      rw [hpo] at hpo'
      cases hpo'
      have him : i < sd.Marks.length := by have := hmk.1; omega
      have hb := hmk.2 i y _ hy (List.getElem?_eq_getElem him)
      have hgd : sd.Marks.getD i 0 = sd.Marks[i] := by simp [him]
      dsimp only
      rw [hgd]
      exact ⟨by simp, hb.1, hb.2, perm _ hb.1 hb.2⟩
    | none =>
      dsimp only
      have hw : ∀ g ∈ countG m x.Number i, worth g ≤ y.Max := by
        intro g hgm
        obtain ⟨hgm, hgp⟩ := List.mem_filter.1 hgm
        simp only [Bool.and_eq_true, beq_iff_eq] at hgp
        obtain ⟨e, ⟨x', a1, _, _, k', p', y', a2, a0, a3, _, a4, _⟩, b1, b2, b3⟩ := hg g hgm
        rw [← b1, hgp.1, hso] at a1
        cases a1
        rw [hk] at a2
        cases a2
        rw [← b2, hgp.2, Int.toNat_natCast, hy] at a3
        cases a3
        unfold worth
        split <;> omega
      obtain ⟨h1, h2, h3⟩ := decideV_bd r _ y.Max (by omega) hw
      exact ⟨h1, h2, h3, perm _ h2 h3⟩

theorem openL_len {r : GMarkRule} {s : GSetup} (hs : OkSetup s) {m : GMarking} : ∀ l : List GScript, (openL r s m l).length ≤ 24 * l.length
  | [] => by simp [openL]
  | x :: l => by
    have h1 := openL_len (r := r) hs (m := m) l
    have h2 := openOf_len (n := x.Number) (l := verdS r s m x) (i := 0)
    have h3 := verdS_len (r := r) hs (m := m) (x := x)
    unfold openL at h1 ⊢
    rw [List.flatMap_cons, List.length_append, List.length_cons]
    omega

end Go.Proofs.YtdhibifcofaioaaGreat
