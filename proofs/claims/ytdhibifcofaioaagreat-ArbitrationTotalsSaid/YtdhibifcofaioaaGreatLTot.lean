/- The law of totals. -/
import Derived.Test.YtdhibifcofaioaaGreatArb
namespace Go.Proofs.YtdhibifcofaioaaGreat
open Go.Ab
set_option linter.unusedSimpArgs false

theorem c_sane : cw f_law30_sane [] [] = some (q_law30_sane true) := by
  have d (r : GMarkRule) (l : List GGiven) (h : l.length ≤ 1000000) (hv : ∀ g ∈ l, g.Value ≤ 1099511627776) := c_Decide r l h hv
  have v1 : decideV ⟨true, 2⟩ [⟨0, 0, 0, 1, 5, ⟨0, 0, 0⟩⟩, ⟨0, 0, 0, 1, 6, ⟨0, 0, 0⟩⟩] = ⟨3, 6⟩ := rfl
  have v2 : decideV ⟨true, 2⟩ [⟨0, 0, 0, 1, 3, ⟨0, 0, 0⟩⟩, ⟨0, 0, 0, 1, 6, ⟨0, 0, 0⟩⟩] = ⟨2, 0⟩ := rfl
  have v3 : decideV ⟨true, 2⟩ [⟨0, 0, 0, 1, 7, ⟨0, 0, 0⟩⟩, ⟨0, 0, 0, 2, 4, ⟨0, 0, 0⟩⟩, ⟨0, 0, 0, 1, 7, ⟨0, 0, 0⟩⟩] = ⟨3, 4⟩ := rfl
  have v4 : decideV ⟨true, 2⟩ [⟨0, 0, 0, 1, 7, ⟨0, 0, 0⟩⟩] = ⟨1, 0⟩ := rfl
  have v5 : decideV ⟨true, 2⟩ [] = ⟨0, 0⟩ := rfl
  refine e_law30_sane ?_
  rw [d _ _ (by simp) (by simp), d _ _ (by simp) (by simp), d _ _ (by simp) (by simp), d _ _ (by simp) (by simp)]
  simp only [v1, v2, v3, v4, callD_arbitration_Decide]
  rw [d _ _ (by simp) (by simp)]
  simp only [v5, callD_arbitration_Decide, c_arbitration_Check, callD_arbitration_Check]
  rfl

theorem decisive_mem (l : List GGiven) (h : (decisive l).2 = true) : (decisive l).1 ∈ l := by
  have key : ∀ (r : List GGiven) (b : GGiven × Bool), (∀ g ∈ r, g ∈ l) → (b.2 = true → b.1 ∈ l) → (r.foldl stepD b).2 = true → (r.foldl stepD b).1 ∈ l := by
    intro r
    induction r with
    | nil => intro b _ hb h; exact hb h
    | cons g r ih =>
      intro b hr hb h
      refine ih (stepD b g) (fun x hx => hr x (by simp [hx])) ?_ h
      unfold stepD
      split
      · exact hb
      · split
        · intro _; exact hr g (by simp)
        · exact hb
  exact key l _ (fun _ h => h) (by simp) h

theorem mean_bd (l : List GGiven) (h0 : l ≠ []) (M : Int) (hw : ∀ g ∈ l, worth g ≤ M) : 0 ≤ mean l ∧ mean l ≤ M := by
  have hpos : 0 < l.length := List.length_pos_iff.2 h0
  have h1 := sumW_le l M hw
  have h2 := sumW_nonneg l
  have h3 : 0 ≤ (sumW l).tmod l.length := Int.tmod_nonneg _ h2
  have h4 : (sumW l).tmod l.length < l.length := Int.tmod_lt_of_pos _ (by omega)
  have h5 : 0 ≤ (sumW l).tdiv l.length := Int.tdiv_nonneg h2 (by omega)
  have h6 := Int.mul_tdiv_add_tmod (sumW l) l.length
  unfold mean
  split
  · refine ⟨by omega, ?_⟩
    by_cases hq : M ≤ (sumW l).tdiv l.length
    · have := Int.mul_le_mul_of_nonneg_left hq (show (0 : Int) ≤ (l.length : Int) by omega)
      omega
    · omega
  · refine ⟨h5, ?_⟩
    by_cases hq : M + 1 ≤ (sumW l).tdiv l.length
    · have := Int.mul_le_mul_of_nonneg_left hq (show (0 : Int) ≤ (l.length : Int) by omega)
      rw [Int.mul_add] at this
      omega
    · omega

theorem decideV_bd (r : GMarkRule) (l : List GGiven) (M : Int) (hM : 0 ≤ M) (hw : ∀ g ∈ l, worth g ≤ M) : (0 ≤ (decideV r l).State ∧ (decideV r l).State ≤ 3) ∧ 0 ≤ (decideV r l).Value ∧ (decideV r l).Value ≤ M := by
  unfold decideV
  split
  · rename_i h
    exact ⟨by simp, worth_nonneg _, hw _ (decisive_mem l h)⟩
  · split
    · exact ⟨by simp, by simp, by simpa using hM⟩
    · rename_i g _ 
      split
      · exact ⟨by simp, by simp, by simpa using hM⟩
      · exact ⟨by simp, worth_nonneg _, hw g (by simp)⟩
    · split
      · exact ⟨by simp, by simp, by simpa using hM⟩
      · exact ⟨by simp, mean_bd _ (by simp) M hw⟩

theorem closedAt_perm {p : GPaper} {c : GScheme} {a : List Int} {i : Nat} {y : GPart} (hy : p.Parts[i]? = some y) (ho : OkPart y) :
    0 ≤ (if 0 > closedAt p c a i then 0 else closedAt p c a i) ∧ (if 0 > closedAt p c a i then 0 else closedAt p c a i) ≤ y.Max ∧ PermP y (if 0 > closedAt p c a i then 0 else closedAt p c a i) := by
  have hm := ho.1
  have hk := kind2 ho
  have key : closedAt p c a i = y.Max ∧ y.Kind = 2 ∨ closedAt p c a i ≤ 0 := by
    unfold closedAt
    rw [hy]
    split
    · rename_i x ks v h1 h2 h3
      injection h1 with h1
      subst h1
      split
      · right; omega
      · split
        · left; exact ⟨rfl, by omega⟩
        · right; split <;> omega
    · right; omega
  unfold PermP
  rcases key with ⟨h1, h2⟩ | h1
  · rw [if_neg (by omega), if_pos h2, h1]
    exact ⟨by omega, by omega, by omega⟩
  · have : (if 0 > closedAt p c a i then 0 else closedAt p c a i) = 0 := by split <;> omega
    rw [this]
    refine ⟨by omega, by omega, ?_⟩
    split <;> omega

theorem verd_ok (r : GMarkRule) (s : GSetup) (hs : OkSetup s) (m : GMarking) (hg : ∀ g ∈ m.Given, GivenOk s g) (x : GScript) (hx : x ∈ s.Scripts) (k : Nat) (p : GPaper) (c : GScheme) (hk : paperIx s.Papers x = some (k, p)) (hc : s.Schemes[k]? = some c)
    (i : Nat) (y : GPart) (hy : p.Parts[i]? = some y) :
    (0 ≤ (verdAt r m x p c (seedOf s.Seeds x.Number) i).State ∧ (verdAt r m x p c (seedOf s.Seeds x.Number) i).State ≤ 3) ∧ 0 ≤ (verdAt r m x p c (seedOf s.Seeds x.Number) i).Value ∧ (verdAt r m x p c (seedOf s.Seeds x.Number) i).Value ≤ y.Max ∧ PermP y (verdAt r m x p c (seedOf s.Seeds x.Number) i).Value := by
  have hpk := (paperIx_at hk).1
  have hok := hs.schemes k p c hpk hc
  have hyo : OkPart y := hok.1.2.2.2.1 y (List.mem_of_getElem? hy)
  have hy1 := hyo.1
  have hlt := (List.getElem?_eq_some_iff.1 hy).1
  have hiw : i < c.Withdrawn.length := by have := hok.2.2.1; omega
  have hso := scriptOf_mem hs.scripts.2.2 hx
  have hpo : paperOf s x.Number = some (k, p) := by unfold paperOf; rw [hso]; exact hk
  unfold verdAt
  rw [hy, List.getElem?_eq_getElem hiw]
  dsimp only
  split
  · exact ⟨by simp, closedAt_perm hy hyo⟩
  · rename_i hn
    have hk1 : y.Kind = 1 := by have := kind2 hyo; omega
    have perm : ∀ v, 0 ≤ v → v ≤ y.Max → PermP y v := by
      intro v h0 h1
      unfold PermP
      rw [if_neg (by omega)]
      omega
    cases ho : seedOf s.Seeds x.Number with
    | some q =>
      obtain ⟨q, sd⟩ := q
      obtain ⟨k', p', hpo', hmk⟩ := seed_judge hs ho
      rw [hpo] at hpo'
      cases hpo'
      have him : i < sd.Marks.length := by have := hmk.1; omega
      have hb := hmk.2 i y _ hy (List.getElem?_eq_getElem him)
      have hgd : sd.Marks.getD i 0 = sd.Marks[i] := by simp [him]
      dsimp only
      rw [hgd]
      exact ⟨by simp, hb.1, hb.2, perm _ hb.1 hb.2⟩
    | none =>
      dsimp only
      have hw : ∀ g ∈ countG m x.Number i, worth g ≤ y.Max := by
        intro g hgm
        obtain ⟨hgm, hgp⟩ := List.mem_filter.1 hgm
        simp only [Bool.and_eq_true, beq_iff_eq] at hgp
        obtain ⟨e, ⟨x', a1, _, _, k', p', y', a2, a0, a3, _, a4, _⟩, b1, b2, b3⟩ := hg g hgm
        rw [← b1, hgp.1, hso] at a1
        cases a1
        rw [hk] at a2
        cases a2
        rw [← b2, hgp.2, Int.toNat_natCast, hy] at a3
        cases a3
        unfold worth
        split <;> omega
      obtain ⟨h1, h2, h3⟩ := decideV_bd r _ y.Max (by omega) hw
      exact ⟨h1, h2, h3, perm _ h2 h3⟩

theorem openOf_fst {n : Int} : ∀ {l : List GVerdict} {i : Nat} {q : Int × Int}, q ∈ openOf n l i → q.1 = n
  | [], _, _, h => by simp [openOf] at h
  | v :: r, i, q, h => by
    unfold openOf at h
    split at h
    · exact openOf_fst h
    · rcases List.mem_cons.1 h with rfl | h
      · rfl
      · exact openOf_fst h

theorem openOf_nil {n : Int} : ∀ {l : List GVerdict} {i : Nat}, openOf n l i = [] ↔ ∀ v ∈ l, v.State = 3
  | [], _ => by simp [openOf]
  | v :: r, i => by
    unfold openOf
    split
    · rename_i h
      rw [openOf_nil (l := r)]
      simp [h]
    · rename_i h
      simp [h]

theorem state_iff : ∀ {l : List GVerdict} {a : Int}, (l.foldl (fun s v => if v.State < s then v.State else s) a = a ↔ ∀ v ∈ l, a ≤ v.State) ∧ l.foldl (fun s v => if v.State < s then v.State else s) a ≤ a
  | [], a => by simp
  | v :: r, a => by
    simp only [List.foldl_cons, List.mem_cons, forall_eq_or_imp]
    split
    · rename_i h
      obtain ⟨_, h2⟩ := state_iff (l := r) (a := v.State)
      exact ⟨⟨fun h3 => by omega, fun h3 => by omega⟩, by omega⟩
    · rename_i h
      obtain ⟨h1, h2⟩ := state_iff (l := r) (a := a)
      exact ⟨⟨fun h3 => ⟨by omega, h1.1 h3⟩, fun h3 => h1.2 h3.2⟩, h2⟩

theorem stateL_iff {l : List GVerdict} (h : ∀ v ∈ l, v.State ≤ 3) : stateL l = 3 ↔ ∀ v ∈ l, v.State = 3 := by
  unfold stateL
  rw [state_iff.1]
  exact ⟨fun h2 v hv => by have := h v hv; have := h2 v hv; omega, fun h2 v hv => by have := h2 v hv; omega⟩

theorem waits_iff {r : GMarkRule} {s : GSetup} (hs : OkSetup s) {m : GMarking} {x : GScript} (hx : x ∈ s.Scripts) (h3 : ∀ v ∈ verdS r s m x, v.State ≤ 3) :
    (openL r s m s.Scripts).any (fun q => q.1 == x.Number) = !decide (stateL (verdS r s m x) = 3) := by
  rw [Bool.eq_iff_iff]
  simp only [List.any_eq_true, beq_iff_eq, Bool.not_eq_true', decide_eq_false_iff_not, stateL_iff h3]
  rw [← openOf_nil (n := x.Number) (i := 0)]
  constructor
  · rintro ⟨q, hq, e⟩ hn
    unfold openL at hq
    obtain ⟨x', hx', hq⟩ := List.mem_flatMap.1 hq
    have e2 := openOf_fst hq
    have : scriptOf s.Scripts x'.Number = scriptOf s.Scripts x.Number := by rw [← e2, e]
    rw [scriptOf_mem hs.scripts.2.2 hx', scriptOf_mem hs.scripts.2.2 hx] at this
    cases this
    rw [hn] at hq
    cases hq
  · intro hn
    cases ho : openOf x.Number (verdS r s m x) 0 with
    | nil => exact absurd ho hn
    | cons q rest =>
      have hq : q ∈ openOf x.Number (verdS r s m x) 0 := by rw [ho]; simp
      exact ⟨q, List.mem_flatMap.2 ⟨x, hx, hq⟩, openOf_fst hq⟩

theorem openL_len {r : GMarkRule} {s : GSetup} (hs : OkSetup s) {m : GMarking} : ∀ l : List GScript, (openL r s m l).length ≤ 24 * l.length
  | [] => by simp [openL]
  | x :: l => by
    have h1 := openL_len (r := r) hs (m := m) l
    have h2 := openOf_len (n := x.Number) (l := verdS r s m x) (i := 0)
    have h3 := verdS_len (r := r) hs (m := m) (x := x)
    unfold openL at h1 ⊢
    rw [List.flatMap_cons, List.length_append, List.length_cons]
    omega

theorem law_Totals (t : List Int) : cw f_law30_ArbitrationTotals [.sl 1 (List.map nI_i64 t)] [] = some (.v (.bool true), []) := by
  refine e_law30_ArbitrationTotals t ?_
  simp only [c_Light, callD_mark_Light]
  by_cases hl : (t.length : Int) ≤ 600
  case neg =>
    simp (disch := omega) only [decide_eq_false hl, Bool.not_false, brn_true, c_sane, callD_law30_sane]
  simp only [decide_eq_true hl, Bool.not_true, brn_false, c_Roll, callD_mark_Roll]
  have hd0 : DOk ⟨t, 0⟩ := ⟨by simp, by simp; omega⟩
  obtain ⟨s, d1, e1, hD, hd1⟩ := c_Setup ⟨t, 0⟩ hd0
  have hs := hD.ok
  obtain ⟨ev, d2, e2, l2, p2, hd2⟩ := c_Events d1 s 20 hd1 hD (by omega)
  obtain ⟨fu, d3, e3, l3, p3, hd3⟩ := c_Full d2 s 50 hd2 hD
  have hle : (ev ++ fu).length ≤ 2000 := by simp; omega
  have hpe : ∀ e ∈ ev ++ fu, e.Pages.length ≤ 1000000 := by
    intro e he
    rcases List.mem_append.1 he with h | h
    · have := p2 e h; omega
    · have := p3 e h; omega
  obtain ⟨m, e4, g1, g2, g3⟩ := c_ref29_Fold s hs (ev ++ fu) hle hpe
  obtain ⟨r, d4, e5, t1, t2, hd4⟩ := c_Rule d3 hd3
  have hr : chkR r = 0 := by unfold chkR; rw [if_neg (by omega), if_neg (by omega)]
  have hm : SmallM m := by
    refine ⟨by omega, fun g hg => ?_⟩
    obtain ⟨e, ⟨x', a1, _, _, k', p', y', a2, a0, a3, _, a4, _⟩, b1, b2, b3⟩ := g2 g hg
    have := ((hs.okPaper (paperIx_at a2).1).2.2.2.1 y' (List.mem_of_getElem? a3)).1
    omega
  have htk : List.take (ev.length + fu.length) (List.map nGMarkEvent ev ++ List.map nGMarkEvent fu) = List.map nGMarkEvent (ev ++ fu) := by
    rw [← List.map_append, List.take_of_length_le (by simp)]
  have htk2 : List.take fu.length (List.map nGMarkEvent fu) = List.map nGMarkEvent fu := List.take_of_length_le (by simp)
  have hx60 := hs.scripts.1
  have hp32 := hs.papers
  simp (disch := omega) only [e1, callD_mark_Dice_Setup, e2, callD_mark_Dice_Events, e3, callD_mark_Dice_Full, List.length_map, Nat.zero_add, Nat.le_refl, chk_true, eq_self, htk2, List.length_append, chk_pos, htk, e4, callD_ref29_Fold, e5, callD_mark_Dice_Rule, c_Open r s hs m hm, hr, if_true, callD_arbitration_Open, bne_self_eq_false, brn_false]
  refine range_int s.Scripts (fun i _ => k_law30_ArbitrationTotals_1 (s, d1) (m, 0) (r, d4) (openL r s m s.Scripts, 0) i = some (.v (.bool true), [])) ?_ ?_
  · refine t_law30_ArbitrationTotals_1 _ _ _ _ _ ?_
    simp (disch := omega) only [List.length_map, brn_neg, c_sane, callD_law30_sane]
  · intro i hi _ _ ih
    have hx : s.Scripts[i] ∈ s.Scripts := List.getElem_mem hi
    generalize hX : s.Scripts[i] = x at hx
    obtain ⟨k, p, c, hk, hc, _⟩ := hs.script x hx
    have hpk := (paperIx_at hk).1
    have hok := hs.schemes k p c hpk hc
    have hpl := hok.1.2.2.1
    have hwl := hok.2.2.1
    have hso := scriptOf_mem hs.scripts.2.2 hx
    have hpo : paperOf s x.Number = some (k, p) := by unfold paperOf; rw [hso]; exact hk
    have hvp := verdS_parts (r := r) (m := m) hk
    have hVe : verdS r s m x = (List.range p.Parts.length).map (verdAt r m x p c (seedOf s.Seeds x.Number)) := by
      unfold verdS
      rw [hk]
      dsimp only
      rw [hc]
      rfl
    have hV : ∀ (j : Nat) (hj : j < (verdS r s m x).length) (hj2 : j < p.Parts.length), (0 ≤ (verdS r s m x)[j].State ∧ (verdS r s m x)[j].State ≤ 3) ∧ 0 ≤ (verdS r s m x)[j].Value ∧ (verdS r s m x)[j].Value ≤ p.Parts[j].Max ∧ PermP p.Parts[j] (verdS r s m x)[j].Value := by
      intro j hj hj2
      have := verd_ok r s hs m g2 x hx k p c hk hc j _ (List.getElem?_eq_getElem hj2)
      have e : (verdS r s m x)[j] = verdAt r m x p c (seedOf s.Seeds x.Number) j := by simp [hVe]
      rw [e]
      exact this
    have h3 : ∀ v ∈ verdS r s m x, v.State ≤ 3 := by
      intro v hv
      obtain ⟨j, hj, rfl⟩ := List.mem_iff_getElem.1 hv
      exact (hV j hj (by omega)).1.2
    have hmk : MarkedP p c ((verdS r s m x).map (·.Value)) := by
      intro j y w v hy hw hv _
      obtain ⟨hj, rfl⟩ := List.getElem?_eq_some_iff.1 hy
      obtain ⟨hj2, rfl⟩ := List.getElem?_eq_some_iff.1 hv
      rw [List.getElem_map]
      exact (hV j (by omega) hj).2.2.2
    have hwait := waits_iff hs hx h3
    refine t_law30_ArbitrationTotals_1 _ _ _ _ _ ?_
    have hne : ((p.Parts.length : Int) != (p.Parts.length : Int)) = false := by simp
    have hT := c_Total r s hs m hm hr x hx k p c hk hc (fun _ => hmk)
    have hTot : ∃ a b, cw f_arbitration_Total [.agg (nGMarkRule r), .agg (nGSetup s), .agg (nGMarking m), I x.Number] [] = some (q_arbitration_Total (a, b, 0)) ∧ (a = 3 ↔ stateL (verdS r s m x) = 3) ∧ (a = 3 → b = sumT p.Parts c.Withdrawn ((verdS r s m x).map (·.Value))) := by
      by_cases hst : stateL (verdS r s m x) = 3
      · rw [if_pos hst] at hT
        exact ⟨3, _, hT, by simp [hst], fun _ => rfl⟩
      · rw [if_neg hst] at hT
        exact ⟨_, 0, hT, Iff.rfl, fun h => absurd h hst⟩
    obtain ⟨a, b, eT, ha, hb⟩ := hTot
    simp (disch := omega) only [List.length_map, brn_pos, chk_pos, Int.toNat_natCast, elemD_GScript, List.getElem?_eq_getElem hi, hX, Option.bind_some, eT, callD_arbitration_Total, c_Verdicts r s hs m hm x.Number, if_pos hr, hso, callD_arbitration_Verdicts,
      c_ref29_PaperOf s x.Number (show s.Scripts.length ≤ 1000000 by omega) (show s.Papers.length ≤ 1000000 by omega), hpo, ixR, callD_ref29_PaperOf, bne_self_eq_false, brn_false, Bool.not_true, elemD_GPaper, hpk, hvp, hne]
    -- whether the script waits
    have third : ∀ w : Bool, w = !decide (stateL (verdS r s m x) = 3) → k_law30_ArbitrationTotals_3 (s, d1) (m, 0) (r, d4) (openL r s m s.Scripts, 0) i (a, b, 0) (verdS r s m x, 0) ((k : Int), true) w 0 0 = some (.v (.bool true), []) := by
      intro w hw
      refine range_int (verdS r s m x) (fun j rest => ∀ q : Int, 0 ≤ q → q ≤ 40 * j → q + sumT (p.Parts.drop j.toNat) (c.Withdrawn.drop j.toNat) (rest.map (·.Value)) = sumT p.Parts c.Withdrawn ((verdS r s m x).map (·.Value)) →
        k_law30_ArbitrationTotals_3 (s, d1) (m, 0) (r, d4) (openL r s m s.Scripts, 0) i (a, b, 0) (verdS r s m x, 0) ((k : Int), true) w q j = some (.v (.bool true), [])) ?_ ?_ 0 (by omega) (by omega) (by simp)
      · intro q _ _ hq
        have hq2 : q = sumT p.Parts c.Withdrawn ((verdS r s m x).map (·.Value)) := by
          rw [← hq]
          have : p.Parts.drop ((verdS r s m x).length : Int).toNat = [] := List.drop_eq_nil_of_le (by omega)
          rw [this]
          simp [sumT]
        refine t_law30_ArbitrationTotals_3 _ _ _ _ _ _ _ _ _ _ _ ?_
        simp (disch := omega) only [List.length_map, brn_neg, w64_id]
        by_cases hst : stateL (verdS r s m x) = 3
        · have ha3 := ha.2 hst
          have hb3 := hb ha3
          rw [hw, ha3]
          simp only [hst, beq_self_eq_true, decide_true, Bool.not_true, show ((true : Bool) == false) = false from rfl, brn_false, brn_true, hb3, hq2, bne_self_eq_false]
          exact ih
        · have ha3 : ¬ a = 3 := fun h => hst (ha.1 h)
          rw [hw]
          simp only [show (a == 3) = false by simpa using ha3, decide_eq_false hst, Bool.not_false, show ((false : Bool) == true) = false from rfl, brn_false]
          exact ih
      · intro j hj rest _ ih3 q hq0 hq1 hq
        have hj2 : j < p.Parts.length := by omega
        have hj3 : j < c.Withdrawn.length := by omega
        have hjx : ((j : Int) + 1).toNat = j + 1 := by omega
        rw [hjx] at ih3
        obtain ⟨_, hv0, hv1, _⟩ := hV j hj hj2
        have hmx := (hok.1.2.2.2.1 _ (List.getElem_mem hj2)).1
        have hww := (hok.2.2.2 j _ (c.Keys[j]'(by have := hok.2.1; omega)) _ (List.getElem?_eq_getElem hj2) (List.getElem?_eq_getElem _) (List.getElem?_eq_getElem hj3)).2
        rw [List.drop_eq_getElem_cons (show ((j : Int).toNat) < p.Parts.length by omega), List.drop_eq_getElem_cons (show ((j : Int).toNat) < c.Withdrawn.length by omega), List.map_cons, sumT] at hq
        simp only [Int.toNat_natCast] at hq
        refine t_law30_ArbitrationTotals_3 _ _ _ _ _ _ _ _ _ _ _ ?_
        simp (disch := omega) only [List.length_map, brn_pos, chk_pos, Int.toNat_natCast, elemD_GVerdict, List.getElem?_eq_getElem hj, Option.bind_some, elemD_GScheme, hc, elemD_I_i64, List.getElem?_eq_getElem hj3, elemD_GPaper, hpk, elemD_GPart, List.getElem?_eq_getElem hj2, w64_id]
        unfold termT at hq
        by_cases hw0 : c.Withdrawn[j] = 0
        · simp only [show (c.Withdrawn[j] == 0) = true by simpa using hw0, brn_true]
          rw [if_neg (by omega), if_neg (by omega), if_neg (by omega)] at hq
          exact ih3 _ (by omega) (by omega) (by omega)
        · simp only [show (c.Withdrawn[j] == 0) = false by simpa using hw0, brn_false]
          by_cases hw1 : c.Withdrawn[j] = 1
          · simp only [show (c.Withdrawn[j] == 1) = true by simpa using hw1, brn_true]
            rw [if_pos hw1] at hq
            exact ih3 _ (by omega) (by omega) (by omega)
          · simp only [show (c.Withdrawn[j] == 1) = false by simpa using hw1, brn_false]
            rw [if_neg hw1, if_pos (by omega)] at hq
            exact ih3 _ (by omega) (by omega) (by omega)
    refine range_int (openL r s m s.Scripts) (fun j rest => ∀ w : Bool, (w || rest.any (fun q => q.1 == x.Number)) = !decide (stateL (verdS r s m x) = 3) →
      k_law30_ArbitrationTotals_2 (s, d1) (m, 0) (r, d4) (openL r s m s.Scripts, 0) i x (a, b, 0) (verdS r s m x, 0) ((k : Int), true) w j = some (.v (.bool true), [])) ?_ ?_ false (by rw [Bool.false_or]; exact hwait)
    · intro w hw
      refine t_law30_ArbitrationTotals_2 _ _ _ _ _ _ _ _ _ _ _ ?_
      simp (disch := omega) only [List.length_map, brn_neg]
      exact third w (by simpa using hw)
    · intro j hj rest _ ih2 w hw
      have hol : (openL r s m s.Scripts).length ≤ 100000 := by have := openL_len (r := r) hs (m := m) s.Scripts; omega
      refine t_law30_ArbitrationTotals_2 _ _ _ _ _ _ _ _ _ _ _ ?_
      simp (disch := omega) only [List.length_map, brn_pos, chk_pos, Int.toNat_natCast, elemD_A2_I_i64, List.getElem?_eq_getElem hj, Option.bind_some, w64_id]
      rw [List.any_cons] at hw
      cases w with
      | true => simp only [brn_true]; exact ih2 true (by simpa using hw)
      | false => simp only [brn_false]; exact ih2 _ (by simpa using hw)
end Go.Proofs.YtdhibifcofaioaaGreat
