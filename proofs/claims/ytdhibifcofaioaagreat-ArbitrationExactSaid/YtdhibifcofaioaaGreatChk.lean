/- Which papers, schemes, markers and scripts are right: both programs say the same. -/
import Derived.Test.YtdhibifcofaioaaGreatBas
namespace Go.Proofs.YtdhibifcofaioaaGreat
open Go.Ab
set_option linter.unusedSimpArgs false

def OkPart (p : GPart) : Prop :=
  (1 ≤ p.Max ∧ p.Max ≤ 40) ∧ (0 ≤ p.Topic ∧ p.Topic < 16) ∧ (0 ≤ p.Objective ∧ p.Objective < 6) ∧
  ((p.Kind = 1 ∧ p.Options = 0 ∧ p.Key = 0) ∨ (p.Kind = 2 ∧ 2 ≤ p.Options ∧ p.Options ≤ 5 ∧ 0 ≤ p.Key ∧ p.Key < p.Options))

instance (p : GPart) : Decidable (OkPart p) := by unfold OkPart; infer_instance

theorem c_item_ValidPart (p : GPart) : cw f_item_ValidPart [.agg (nGPart p)] [] = some (q_item_ValidPart (dec (OkPart p))) := by
  refine e_item_ValidPart p ?_
  simp only [brn_ite, decide_eq_true_eq, beq_iff_eq]
  repeat' split
  all_goals first
    | (rw [dec_false (by unfold OkPart; omega)]; rfl)
    | (rw [show (p.Key == 0) = dec (OkPart p) from dec_bool (by simp only [beq_iff_eq]; unfold OkPart; omega)]; rfl)
    | (rw [show decide (p.Key < p.Options) = dec (OkPart p) from dec_bool (by simp only [decide_eq_true_eq]; unfold OkPart; omega)]; rfl)

theorem c_ref06_ValidPart (p : GPart) : cw f_ref06_ValidPart [.agg (nGPart p)] [] = some (q_ref06_ValidPart (dec (OkPart p))) := by
  refine e_ref06_ValidPart p ?_
  simp only [brn_ite, decide_eq_true_eq, beq_iff_eq]
  repeat' split
  all_goals first
    | (rw [dec_false (by unfold OkPart; omega)]; rfl)
    | (rw [show (p.Key == 0) = dec (OkPart p) from dec_bool (by simp only [beq_iff_eq]; unfold OkPart; omega)]; rfl)
    | (rw [show decide (p.Key < p.Options) = dec (OkPart p) from dec_bool (by simp only [decide_eq_true_eq]; unfold OkPart; omega)]; rfl)

def sumMax (l : List GPart) : Int := (l.map (·.Max)).sum

theorem sumMax_cons (p : GPart) (l : List GPart) : sumMax (p :: l) = p.Max + sumMax l := by simp [sumMax]

theorem sumMax_bd {l : List GPart} (h : ∀ p ∈ l, OkPart p) : 0 ≤ sumMax l ∧ sumMax l ≤ 40 * l.length := by
  induction l with
  | nil => simp [sumMax]
  | cons p l ih =>
    have h1 := ih (fun q hq => h q (by simp [hq]))
    have h2 := (h p (by simp)).1
    rw [sumMax_cons, List.length_cons]
    omega

def OkPaper (p : GPaper) : Prop :=
  (0 ≤ p.Code ∧ p.Code ≤ 31) ∧ (0 ≤ p.Variant ∧ p.Variant < 4) ∧ (1 ≤ p.Parts.length ∧ p.Parts.length ≤ 24) ∧ (∀ x ∈ p.Parts, OkPart x) ∧ sumMax p.Parts ≤ 200

theorem c_item_sumOfMax (l : List GPart) (h : ∀ p ∈ l, OkPart p) (hl : l.length ≤ 24) : cw f_item_sumOfMax [.sl 6 (List.map nGPart l)] [] = some (q_item_sumOfMax (sumMax l)) := by
  refine e_item_sumOfMax l ?_
  have hb := sumMax_bd h
  refine range_int l (fun i r => ∀ s : Int, 0 ≤ s → 0 ≤ sumMax r → s + sumMax r = sumMax l → k_item_sumOfMax_1 l s i = some (q_item_sumOfMax (sumMax l))) ?_ ?_ 0 (by omega) (by omega) (by omega)
  · intro s _ _ hs
    refine t_item_sumOfMax_1 l _ _ ?_
    simp (disch := omega) [brn_neg]
    rw [← hs]; simp [sumMax]; rfl
  · intro i hi r hr ih s h0 h1 hs
    refine t_item_sumOfMax_1 l _ _ ?_
    have hm := (h l[i] (List.getElem_mem hi)).1
    rw [sumMax_cons] at hs h1
    have hr0 : 0 ≤ sumMax r := (sumMax_bd (l := r) (fun q hq => h q (by rw [← hr] at hq; exact List.mem_of_mem_drop hq))).1
    simp (disch := omega) [brn_pos, chk_pos, w64_id]
    exact ih _ (by omega) hr0 (by omega)

theorem c_item_ValidPaper (p : GPaper) : cw f_item_ValidPaper [.agg (nGPaper p)] [] = some (q_item_ValidPaper (dec (OkPaper p))) := by
  refine e_item_ValidPaper p ?_
  by_cases hh : ((0 ≤ p.Code ∧ p.Code ≤ 31) ∧ (0 ≤ p.Variant ∧ p.Variant < 4) ∧ (1 ≤ p.Parts.length ∧ p.Parts.length ≤ 24))
  · simp (disch := omega) only [List.length_map, brn_neg]
    have hg := fun z h0 => all_gen p.Parts.length (fun j hj => OkPart p.Parts[j]) (fun i => k_item_ValidPaper_1 p i) (fun y => y = q_item_ValidPaper false) z h0
      (fun i hi _ hn => ⟨_, rfl, t_item_ValidPaper_1 p _ (by simp (disch := omega) [brn_pos, chk_pos, c_item_ValidPart, dec_false hn]; rfl)⟩)
      (fun i hi y hy hk => t_item_ValidPaper_1 p _ (by simp (disch := omega) [brn_pos, chk_pos, w64_id, c_item_ValidPart, dec_true hy, hk]))
    rcases hg (q_item_ValidPaper (dec (OkPaper p))) (fun h => t_item_ValidPaper_1 p _ (by
      have h' := all_get.1 h
      simp (disch := omega) [brn_neg, c_item_sumOfMax p.Parts h' (by omega)]
      rw [show decide (sumMax p.Parts ≤ 200) = dec (OkPaper p) from dec_bool (by simp only [decide_eq_true_eq]; unfold OkPaper; exact ⟨fun h => ⟨hh.1, hh.2.1, hh.2.2, h', h⟩, fun h => h.2.2.2.2⟩)]
      rfl)) with ⟨h1, h2⟩ | ⟨⟨j, hj, h1⟩, y, rfl, h3⟩
    · exact h2
    · rw [dec_false (fun h => h1 (h.2.2.2.1 _ (List.getElem_mem hj)))]
      exact h3
  · rw [dec_false (fun h => hh ⟨h.1, h.2.1, h.2.2.1⟩)]
    simp only [brn_ite, decide_eq_true_eq, List.length_map]
    repeat' split
    all_goals first
      | rfl
      | omega

theorem c_ref06_ValidPaper (p : GPaper) : cw f_ref06_ValidPaper [.agg (nGPaper p)] [] = some (q_ref06_ValidPaper (dec (OkPaper p))) := by
  refine e_ref06_ValidPaper p ?_
  by_cases hh : ((0 ≤ p.Code ∧ p.Code ≤ 31) ∧ (0 ≤ p.Variant ∧ p.Variant < 4) ∧ (1 ≤ p.Parts.length ∧ p.Parts.length ≤ 24))
  · simp (disch := omega) only [List.length_map, brn_neg]
    have key := range_int p.Parts (fun i r => ∀ s : Int, 0 ≤ s → s ≤ 40 * i → (OkPaper p ↔ (∀ x ∈ r, OkPart x) ∧ s + sumMax r ≤ 200) → k_ref06_ValidPaper_1 p s i = some (q_ref06_ValidPaper (dec (OkPaper p)))) ?_ ?_ 0 (by omega) (by omega) ?_
    · exact key
    · intro s h0 h1 hs
      refine t_ref06_ValidPaper_1 p _ _ ?_
      simp (disch := omega) only [List.length_map, brn_neg]
      rw [show decide (s ≤ 200) = dec (OkPaper p) from dec_bool (by rw [hs]; simp [sumMax])]
      rfl
    · intro i hi r hr ih s h0 h1 hs
      refine t_ref06_ValidPaper_1 p _ _ ?_
      by_cases hp : OkPart p.Parts[i]
      · have hm := hp.1
        simp (disch := omega) [brn_pos, chk_pos, w64_id, c_ref06_ValidPart, dec_true hp]
        refine ih _ (by omega) (by omega) (hs.trans ?_)
        rw [sumMax_cons]
        constructor
        · rintro ⟨h2, h3⟩; exact ⟨fun x hx => h2 x (by simp [hx]), by omega⟩
        · rintro ⟨h2, h3⟩
          refine ⟨fun x hx => ?_, by omega⟩
          rcases List.mem_cons.1 hx with rfl | hx
          · exact hp
          · exact h2 x hx
      · simp (disch := omega) [brn_pos, chk_pos, c_ref06_ValidPart, dec_false hp]
        rw [dec_false (fun h => hp ((hs.1 h).1 _ (by simp)))]
        rfl
    · unfold OkPaper
      constructor
      · intro h; exact ⟨h.2.2.2.1, by simpa using h.2.2.2.2⟩
      · intro h; exact ⟨hh.1, hh.2.1, hh.2.2, h.1, by simpa using h.2⟩
  · rw [dec_false (fun h => hh ⟨h.1, h.2.1, h.2.2.1⟩)]
    simp only [brn_ite, decide_eq_true_eq, List.length_map]
    repeat' split
    all_goals first
      | rfl
      | omega

def OkKeys (o : Int) (ks : List Int) : Prop := (∀ k ∈ ks, 0 ≤ k ∧ k < o) ∧ AscBy id ks

theorem okKeys_zero {ks : List Int} : OkKeys 0 ks ↔ ks = [] := by
  constructor
  · intro h
    cases ks with
    | nil => rfl
    | cons k ks => have := h.1 k (by simp); omega
  · rintro rfl; exact ⟨by simp, fun j hj => by simp at hj⟩

theorem okKeys_iff {o : Int} {ks : List Int} : (∀ j (hj : j < ks.length), (0 ≤ ks[j] ∧ ks[j] < o) ∧ ∀ h : 0 < j, (ks[j - 1]'(by omega)) < ks[j]) ↔ OkKeys o ks := by
  unfold OkKeys
  rw [← asc_iff, ← all_get]
  exact ⟨fun h => ⟨fun j hj => (h j hj).1, fun j hj => (h j hj).2⟩, fun h j hj => ⟨h.1 j hj, h.2 j hj⟩⟩

theorem c_scheme_validKeys (p : GPart) (ks : List Int) (hp : OkPart p) (hl : ks.length ≤ 1000000) :
    cw f_scheme_validKeys [.agg (nGPart p), .sl 1 (List.map nI_i64 ks)] [] = some (q_scheme_validKeys (dec (OkKeys p.Options ks))) := by
  refine e_scheme_validKeys p ks ?_
  by_cases hk : p.Kind = 1
  · have ho : p.Options = 0 := by unfold OkPart at hp; omega
    simp only [hk, beq_self_eq_true, brn_true, List.length_map]
    rw [show ((ks.length : Int) == 0) = dec (OkKeys p.Options ks) from dec_bool (by rw [ho, okKeys_zero]; simp)]
    rfl
  · simp only [show (p.Kind == 1) = false by simpa using hk, brn_false]
    rw [← dec_iff okKeys_iff]
    refine all_bool ks.length _ (fun i => k_scheme_validKeys_1 p ks i) (fun b => q_scheme_validKeys b) ?_ ?_ ?_
    · exact t_scheme_validKeys_1 p ks _ (by simp (disch := omega) only [List.length_map, brn_neg]; rfl)
    · intro i hi hg
      refine t_scheme_validKeys_1 p ks _ ?_
      by_cases h1 : 0 ≤ ks[i] ∧ ks[i] < p.Options
      · have h0 : 0 < i := by
          apply Nat.pos_of_ne_zero
          rintro rfl
          exact hg ⟨h1, fun h => absurd h (by omega)⟩
        have h2 : ¬ (ks[i - 1] < ks[i]) := fun h => hg ⟨h1, fun _ => h⟩
        simp (disch := omega) [brn_pos, brn_neg, chk_pos, w64_id, toNat_pred h0]
        rfl
      · by_cases h2 : ks[i] < 0
        · simp (disch := omega) [brn_pos, chk_pos]
          rfl
        · simp (disch := omega) [brn_pos, brn_neg, chk_pos]
          rfl
    · intro i hi y hg hk'
      refine t_scheme_validKeys_1 p ks _ ?_
      by_cases h0 : 0 < i
      · have h2 := hg.2 h0
        have h1 := hg.1
        simp (disch := omega) [brn_pos, brn_neg, chk_pos, w64_id, toNat_pred h0, hk']
      · have h1 := hg.1
        simp (disch := omega) [brn_pos, brn_neg, chk_pos, w64_id, hk']

theorem c_scheme_isKind (k : Int) : cw f_scheme_isKind [I k] [] = some (q_scheme_isKind (dec (0 ≤ k ∧ k ≤ 2))) := by
  refine e_scheme_isKind k ?_
  simp only [brn_ite, beq_iff_eq]
  repeat' split
  all_goals first
    | (rw [dec_true (by omega)]; rfl)
    | (rw [dec_false (by omega)]; rfl)

def OkScheme (p : GPaper) (s : GScheme) : Prop :=
  OkPaper p ∧ s.Keys.length = p.Parts.length ∧ s.Withdrawn.length = p.Parts.length ∧
  ∀ (j : Nat) (x : GPart) (ks : List Int) (k : Int), p.Parts[j]? = some x → s.Keys[j]? = some ks → s.Withdrawn[j]? = some k → OkKeys x.Options ks ∧ (0 ≤ k ∧ k ≤ 2)

def Short (s : GScheme) : Prop := ∀ ks ∈ s.Keys, ks.length ≤ 1000000

theorem okScheme_iff {p : GPaper} {s : GScheme} (h1 : s.Keys.length = p.Parts.length) (h2 : s.Withdrawn.length = p.Parts.length) (hp : OkPaper p) :
    (∀ j (hj : j < p.Parts.length), OkKeys p.Parts[j].Options (s.Keys[j]'(by omega)) ∧ (0 ≤ s.Withdrawn[j]'(by omega) ∧ s.Withdrawn[j]'(by omega) ≤ 2)) ↔ OkScheme p s := by
  unfold OkScheme
  constructor
  · intro h
    refine ⟨hp, h1, h2, fun j x ks k a b c => ?_⟩
    obtain ⟨hj, rfl⟩ := List.getElem?_eq_some_iff.1 a
    obtain ⟨_, rfl⟩ := List.getElem?_eq_some_iff.1 b
    obtain ⟨_, rfl⟩ := List.getElem?_eq_some_iff.1 c
    exact h j hj
  · intro h j hj
    exact h.2.2.2 j _ _ _ (List.getElem?_eq_getElem hj) (List.getElem?_eq_getElem (by omega)) (List.getElem?_eq_getElem (by omega))

theorem c_scheme_Valid (p : GPaper) (s : GScheme) (hs : Short s) : cw f_scheme_Valid [.agg (nGPaper p), .agg (nGScheme s)] [] = some (q_scheme_Valid (dec (OkScheme p s))) := by
  refine e_scheme_Valid p s ?_
  simp only [c_item_ValidPaper, callD_item_ValidPaper, List.length_map]
  by_cases hp : OkPaper p
  · by_cases h1 : s.Keys.length = p.Parts.length
    · by_cases h2 : s.Withdrawn.length = p.Parts.length
      · simp only [dec_true hp, h1, h2, Bool.not_true, brn_false, bne_self_eq_false]
        have hpl := hp.2.2.1
        rw [← dec_iff (okScheme_iff h1 h2 hp)]
        refine all_bool p.Parts.length _ (fun i => k_scheme_Valid_1 p s i) (fun b => q_scheme_Valid b) ?_ ?_ ?_
        · exact t_scheme_Valid_1 p s _ (by simp (disch := omega) only [List.length_map, brn_neg]; rfl)
        · intro i hi hg
          have hi1 : i < s.Keys.length := by omega
          have hi2 : i < s.Withdrawn.length := by omega
          refine t_scheme_Valid_1 p s _ ?_
          have hx := hp.2.2.2.1 _ (List.getElem_mem hi)
          by_cases h3 : OkKeys p.Parts[i].Options s.Keys[i]
          · have h4 : ¬ (0 ≤ s.Withdrawn[i] ∧ s.Withdrawn[i] ≤ 2) := fun h => hg ⟨h3, h⟩
            simp (disch := omega) [brn_pos, chk_pos, c_scheme_validKeys _ _ hx (hs _ (List.getElem_mem hi1)), dec_true h3, c_scheme_isKind, dec_false h4]
            rfl
          · simp (disch := omega) [brn_pos, chk_pos, c_scheme_validKeys _ _ hx (hs _ (List.getElem_mem hi1)), dec_false h3]
            rfl
        · intro i hi y hg hk'
          have hi1 : i < s.Keys.length := by omega
          have hi2 : i < s.Withdrawn.length := by omega
          refine t_scheme_Valid_1 p s _ ?_
          have hx := hp.2.2.2.1 _ (List.getElem_mem hi)
          simp (disch := omega) [brn_pos, chk_pos, w64_id, c_scheme_validKeys _ _ hx (hs _ (List.getElem_mem hi1)), dec_true hg.1, c_scheme_isKind, dec_true hg.2, hk']
      · rw [dec_false (p := OkScheme p s) (fun h => h2 h.2.2.1)]
        simp only [dec_true hp, h1, Bool.not_true, brn_false, bne_self_eq_false, show ((s.Withdrawn.length : Int) != p.Parts.length) = true by simpa using (by omega : ¬ ((s.Withdrawn.length : Int) = p.Parts.length)), brn_true]
        rfl
    · rw [dec_false (p := OkScheme p s) (fun h => h1 h.2.1)]
      simp only [dec_true hp, Bool.not_true, brn_false, show ((s.Keys.length : Int) != p.Parts.length) = true by simpa using (by omega : ¬ ((s.Keys.length : Int) = p.Parts.length)), brn_true]
      rfl
  · rw [dec_false hp, dec_false (fun h => hp h.1)]
    rfl

theorem c_ref23_Valid (p : GPaper) (s : GScheme) (hs : Short s) : cw f_ref23_Valid [.agg (nGPaper p), .agg (nGScheme s)] [] = some (q_ref23_Valid (dec (OkScheme p s))) := by
  refine e_ref23_Valid p s ?_
  simp only [c_ref06_ValidPaper, callD_ref06_ValidPaper, List.length_map]
  by_cases hp : OkPaper p
  · by_cases h1 : s.Keys.length = p.Parts.length
    · by_cases h2 : s.Withdrawn.length = p.Parts.length
      · simp only [dec_true hp, h1, h2, Bool.not_true, brn_false, bne_self_eq_false]
        have hpl := hp.2.2.1
        rw [← dec_iff (okScheme_iff h1 h2 hp)]
        have inner : ∀ (i : Nat) (hi : i < p.Parts.length) (y : AV × Mem), k_ref23_Valid_1 p s ((i : Int) + 1) = some y →
            (OkKeys p.Parts[i].Options (s.Keys[i]'(by omega)) → k_ref23_Valid_2 p s i 0 = some y) := by
          intro i hi y hk hg
          have hi1 : i < s.Keys.length := by omega
          have hlk := hs _ (List.getElem_mem hi1)
          have hg' := okKeys_iff.2 hg
          refine range_int s.Keys[i] (fun j r => k_ref23_Valid_2 p s i j = some y) ?_ ?_
          · refine t_ref23_Valid_2 p s _ _ ?_
            simp (disch := omega) [brn_neg, chk_pos, w64_id, hk]
          · intro j hj r hr ih
            refine t_ref23_Valid_2 p s _ _ ?_
            obtain ⟨g1, g2⟩ := hg' j hj
            by_cases h0 : 0 < j
            · have g3 := g2 h0
              simp (disch := omega) [brn_pos, brn_neg, chk_pos, w64_id, toNat_pred h0, ih]
            · simp (disch := omega) [brn_pos, brn_neg, chk_pos, w64_id, ih]
        have innerNo : ∀ (i : Nat) (hi : i < p.Parts.length), ¬ OkKeys p.Parts[i].Options (s.Keys[i]'(by omega)) → k_ref23_Valid_2 p s i 0 = some (q_ref23_Valid false) := by
          intro i hi hg
          have hi1 : i < s.Keys.length := by omega
          have hlk := hs _ (List.getElem_mem hi1)
          rw [← okKeys_iff] at hg
          have hno : ∀ j (hj : j < s.Keys[i].length), ¬ ((0 ≤ s.Keys[i][j] ∧ s.Keys[i][j] < p.Parts[i].Options) ∧ ∀ h : 0 < j, (s.Keys[i][j - 1]'(by omega)) < s.Keys[i][j]) → k_ref23_Valid_2 p s i j = some (q_ref23_Valid false) := by
            intro j hj hn
            refine t_ref23_Valid_2 p s _ _ ?_
            by_cases g1 : 0 ≤ s.Keys[i][j] ∧ s.Keys[i][j] < p.Parts[i].Options
            · have h0 : 0 < j := by
                apply Nat.pos_of_ne_zero
                rintro rfl
                exact hn ⟨g1, fun h => absurd h (by omega)⟩
              have g2 : ¬ (s.Keys[i][j - 1] < s.Keys[i][j]) := fun h => hn ⟨g1, fun _ => h⟩
              simp (disch := omega) [brn_pos, brn_neg, chk_pos, w64_id, toNat_pred h0]
              rfl
            · by_cases g2 : s.Keys[i][j] < 0
              · simp (disch := omega) [brn_pos, chk_pos]
                rfl
              · simp (disch := omega) [brn_pos, brn_neg, chk_pos]
                rfl
          rcases all_gen s.Keys[i].length (fun j hj => (0 ≤ s.Keys[i][j] ∧ s.Keys[i][j] < p.Parts[i].Options) ∧ ∀ h : 0 < j, (s.Keys[i][j - 1]'(by omega)) < s.Keys[i][j])
            (fun j => k_ref23_Valid_2 p s i j) (fun y => y = q_ref23_Valid false) (q_ref23_Valid false) (fun h => absurd h hg) (fun j hj _ hn => ⟨_, rfl, hno j hj hn⟩) (fun j hj y g hk => by
              refine t_ref23_Valid_2 p s _ _ ?_
              obtain ⟨g1, g2⟩ := g
              by_cases h0 : 0 < j
              · have g3 := g2 h0
                simp (disch := omega) [brn_pos, brn_neg, chk_pos, w64_id, toNat_pred h0, hk]
              · simp (disch := omega) [brn_pos, brn_neg, chk_pos, w64_id, hk]) with ⟨_, h⟩ | ⟨_, y, rfl, h⟩
          · exact h
          · exact h
        refine all_bool p.Parts.length _ (fun i => k_ref23_Valid_1 p s i) (fun b => q_ref23_Valid b) ?_ ?_ ?_
        · exact t_ref23_Valid_1 p s _ (by simp (disch := omega) only [List.length_map, brn_neg]; rfl)
        · intro i hi hg
          have hi2 : i < s.Withdrawn.length := by omega
          refine t_ref23_Valid_1 p s _ ?_
          by_cases h4 : (0 ≤ s.Withdrawn[i] ∧ s.Withdrawn[i] ≤ 2)
          · have h3 := fun h => hg ⟨h, h4⟩
            simp (disch := omega) [brn_pos, brn_neg, chk_pos, innerNo i hi h3]
          · by_cases h5 : s.Withdrawn[i] < 0
            · simp (disch := omega) [brn_pos, chk_pos]
              rfl
            · simp (disch := omega) [brn_pos, brn_neg, chk_pos]
              rfl
        · intro i hi y hg hk'
          have hi2 : i < s.Withdrawn.length := by omega
          have g2 := hg.2
          refine t_ref23_Valid_1 p s _ ?_
          simp (disch := omega) [brn_pos, brn_neg, chk_pos, inner i hi y hk' hg.1]
      · rw [dec_false (p := OkScheme p s) (fun h => h2 h.2.2.1)]
        simp only [dec_true hp, h1, Bool.not_true, brn_false, bne_self_eq_false, show ((s.Withdrawn.length : Int) != p.Parts.length) = true by simpa using (by omega : ¬ ((s.Withdrawn.length : Int) = p.Parts.length)), brn_true]
        rfl
    · rw [dec_false (p := OkScheme p s) (fun h => h1 h.2.1)]
      simp only [dec_true hp, Bool.not_true, brn_false, show ((s.Keys.length : Int) != p.Parts.length) = true by simpa using (by omega : ¬ ((s.Keys.length : Int) = p.Parts.length)), brn_true]
      rfl
  · rw [dec_false hp, dec_false (fun h => hp h.1)]
    rfl

/-! ## markers -/

theorem c_marker_isPaper (n : Int) : cw f_marker_isPaper [I n] [] = some (q_marker_isPaper (dec (0 ≤ n ∧ n ≤ 31))) := by
  refine e_marker_isPaper n ?_
  simp only [brn_ite, decide_eq_true_eq]
  split
  · rw [show decide (n ≤ 31) = dec (0 ≤ n ∧ n ≤ 31) from dec_bool (by simp only [decide_eq_true_eq]; omega)]; rfl
  · rw [dec_false (by omega)]; rfl

theorem c_validMarker_1 (n : Int) : cw f_marker_validMarker_1 [I n] [] = some (q_marker_validMarker_1 (!dec (0 ≤ n ∧ n ≤ 31))) :=
  e_marker_validMarker_1 n (by rw [c_marker_isPaper, callD_marker_isPaper]; rfl)

theorem c_ContainsFunc (l : List Int) (hl : l.length ≤ 1000000) : cw f_slices_ContainsFunc_int_int [.sl 1 (List.map nI_i64 l), .fn f_marker_validMarker_1 []] [] = some (q_slices_ContainsFunc_int_int (!dec (∀ n ∈ l, 0 ≤ n ∧ n ≤ 31))) := by
  refine e_slices_ContainsFunc_int_int l ?_
  have key : ∃ r, cw f_slices_IndexFunc_int_int [.sl 1 (List.map nI_i64 l), .fn f_marker_validMarker_1 []] [] = some (q_slices_IndexFunc_int_int r) ∧ (0 ≤ r ↔ ¬ ∀ n ∈ l, 0 ≤ n ∧ n ≤ 31) := by
    have H := all_gen l.length (fun j hj => 0 ≤ l[j] ∧ l[j] ≤ 31) (fun i => k_slices_IndexFunc_int_int_1 l i) (fun y => ∃ r : Int, 0 ≤ r ∧ y = q_slices_IndexFunc_int_int r) (q_slices_IndexFunc_int_int (-1)) ?_ ?_ ?_
    · rcases H with ⟨h1, h2⟩ | ⟨⟨j, hj, h1⟩, y, ⟨r, h2, rfl⟩, h3⟩
      · refine ⟨-1, e_slices_IndexFunc_int_int l h2, ?_⟩
        have := (all_get (G := fun n => 0 ≤ n ∧ n ≤ 31)).1 h1
        exact ⟨fun h => by omega, fun h => absurd this h⟩
      · exact ⟨r, e_slices_IndexFunc_int_int l h3, fun _ h => h1 (h _ (List.getElem_mem hj)), fun _ => h2⟩
    · intro h
      exact t_slices_IndexFunc_int_int_1 l _ (by simp (disch := omega) [brn_neg] <;> rfl)
    · intro i hi _ hg
      refine ⟨_, ⟨(i : Int), by omega, rfl⟩, t_slices_IndexFunc_int_int_1 l _ ?_⟩
      simp (disch := omega) [brn_pos, chk_pos, c_validMarker_1, dec_false hg]
      rfl
    · intro i hi y hg hk
      refine t_slices_IndexFunc_int_int_1 l _ ?_
      simp (disch := omega) [brn_pos, chk_pos, w64_id, c_validMarker_1, dec_true hg, hk]
  obtain ⟨r, h1, h2⟩ := key
  rw [h1, callD_slices_IndexFunc_int_int]
  rw [show decide (0 ≤ r) = !dec (∀ n ∈ l, 0 ≤ n ∧ n ≤ 31) by
    by_cases hc : ∀ n ∈ l, 0 ≤ n ∧ n ≤ 31
    · rw [dec_true hc]; simp only [Bool.not_true, decide_eq_false_iff_not]; exact fun h => (h2.1 h) hc
    · rw [dec_false hc]; simp only [Bool.not_false, decide_eq_true_eq]; exact h2.2 hc]
  rfl

def OkMarker (m : GMarker) : Prop :=
  (1 ≤ m.ID ∧ m.ID ≤ 99) ∧ (-1 ≤ m.Centre ∧ m.Centre ≤ 99) ∧ (1 ≤ m.Level ∧ m.Level ≤ 3) ∧ (0 ≤ m.Capacity ∧ m.Capacity ≤ 60) ∧ (∀ n ∈ m.Papers, 0 ≤ n ∧ n ≤ 31)

theorem c_validMarker (m : GMarker) (hl : m.Papers.length ≤ 1000000) : cw f_marker_validMarker [.agg (nGMarker m)] [] = some (q_marker_validMarker (dec (OkMarker m))) := by
  refine e_marker_validMarker m ?_
  simp only [brn_ite, decide_eq_true_eq]
  repeat' split
  all_goals first
    | (rw [dec_false (by unfold OkMarker; omega)]; rfl)
    | (rw [c_ContainsFunc _ hl, callD_slices_ContainsFunc_int_int, Bool.not_not, dec_iff (p := ∀ n ∈ m.Papers, 0 ≤ n ∧ n ≤ 31) (q := OkMarker m) ⟨fun h => ⟨by omega, by omega, by omega, by omega, h⟩, fun h => h.2.2.2.2⟩]; rfl)

theorem c_marker_ascend (l : List Int) (hl : l.length ≤ 1000000) : cw f_marker_ascend [.sl 1 (List.map nI_i64 l)] [] = some (q_marker_ascend (dec (AscBy id l))) := by
  refine e_marker_ascend l ?_
  by_cases h1 : 1 ≤ l.length
  · have h := all_from 1 l.length h1 (fun j h1 hj => l[j - 1] < l[j]) (fun i => k_marker_ascend_1 l i) (fun b => q_marker_ascend b) ?_ ?_ ?_
    · rw [show ((1 : Nat) : Int) = 1 from rfl] at h
      rw [h]
      congr 2
      rw [← asc_iff]
      exact dec_iff ⟨fun h i hi h0 => h i h0 hi, fun h j h1 hj => h j hj h1⟩
    · exact t_marker_ascend_1 _ _ (by simp (disch := omega) [brn_neg] <;> rfl)
    · intro i h0 hi hg
      refine t_marker_ascend_1 _ _ ?_
      simp (disch := omega) [brn_pos, chk_pos, w64_id, toNat_pred h0]
      rfl
    · intro i h0 hi y hg hk
      refine t_marker_ascend_1 _ _ ?_
      simp (disch := omega) [brn_pos, brn_neg, chk_pos, w64_id, toNat_pred h0, hk]
  · rw [dec_true (p := AscBy id l) (fun j hj => by omega)]
    exact t_marker_ascend_1 _ _ (by simp (disch := omega) [brn_neg] <;> rfl)

theorem c_ref24_in (a b c : Int) : cw f_ref24_in [I a, I b, I c] [] = some (q_ref24_in (dec (b ≤ a ∧ a ≤ c))) := by
  refine e_ref24_in a b c ?_
  simp only [brn_ite, decide_eq_true_eq]
  split
  · rw [show decide (a ≤ c) = dec (b ≤ a ∧ a ≤ c) from dec_bool (by simp only [decide_eq_true_eq]; omega)]; rfl
  · rw [dec_false (by omega)]; rfl

def OkMarkers (l : List GMarker) : Prop := l.length ≤ 16 ∧ (∀ m ∈ l, OkMarker m ∧ AscBy id m.Papers) ∧ AscBy GMarker.ID l

theorem okMarkers_iff {l : List GMarker} (hl : l.length ≤ 16) : (∀ j (hj : j < l.length), (OkMarker l[j] ∧ AscBy id l[j].Papers) ∧ ∀ h : 0 < j, (l[j - 1]'(by omega)).ID < l[j].ID) ↔ OkMarkers l := by
  unfold OkMarkers
  rw [← asc_iff, ← all_get]
  exact ⟨fun h => ⟨hl, fun j hj => (h j hj).1, fun j hj => (h j hj).2⟩, fun h j hj => ⟨h.2.1 j hj, h.2.2 j hj⟩⟩

theorem c_marker_Check (l : List GMarker) (hs : ∀ m ∈ l, m.Papers.length ≤ 1000000) : ∃ e, cw f_marker_Check [.sl 5 (List.map nGMarker l)] [] = some (q_marker_Check e) ∧ (e = 0 ↔ OkMarkers l) := by
  by_cases hl : l.length ≤ 16
  · have H := all_err l.length (fun j hj => (OkMarker l[j] ∧ AscBy id l[j].Papers) ∧ ∀ h : 0 < j, (l[j - 1]'(by omega)).ID < l[j].ID) (fun i => k_marker_Check_1 l i) (fun e => q_marker_Check e) ?_ ?_ ?_
    · obtain ⟨e, h1, h2⟩ := H
      exact ⟨e, e_marker_Check l (by simp (disch := omega) [brn_neg, h1]), h2.trans (okMarkers_iff hl)⟩
    · exact t_marker_Check_1 _ _ (by simp (disch := omega) [brn_neg] <;> rfl)
    · intro i hi hg
      have hp := hs _ (List.getElem_mem hi)
      by_cases h1 : OkMarker l[i]
      · by_cases h2 : AscBy id l[i].Papers
        · have h0 : 0 < i := by
            apply Nat.pos_of_ne_zero
            rintro rfl
            exact hg ⟨⟨h1, h2⟩, fun h => absurd h (by omega)⟩
          have h3 : ¬ (l[i - 1].ID < l[i].ID) := fun h => hg ⟨⟨h1, h2⟩, fun _ => h⟩
          refine ⟨43, by omega, t_marker_Check_1 _ _ ?_⟩
          simp (disch := omega) [brn_pos, chk_pos, w64_id, toNat_pred h0, c_validMarker _ hp, dec_true h1, c_marker_ascend _ hp, dec_true h2]
          rfl
        · refine ⟨43, by omega, t_marker_Check_1 _ _ ?_⟩
          simp (disch := omega) [brn_pos, chk_pos, c_validMarker _ hp, dec_true h1, c_marker_ascend _ hp, dec_false h2]
          rfl
      · refine ⟨2, by omega, t_marker_Check_1 _ _ ?_⟩
        simp (disch := omega) [brn_pos, chk_pos, c_validMarker _ hp, dec_false h1]
        rfl
    · intro i hi y hg hk
      have hp := hs _ (List.getElem_mem hi)
      obtain ⟨⟨h1, h2⟩, h3⟩ := hg
      refine t_marker_Check_1 _ _ ?_
      by_cases h0 : 0 < i
      · have h4 := h3 h0
        simp (disch := omega) [brn_pos, brn_neg, chk_pos, w64_id, toNat_pred h0, c_validMarker _ hp, dec_true h1, c_marker_ascend _ hp, dec_true h2, hk]
      · simp (disch := omega) [brn_pos, brn_neg, chk_pos, w64_id, c_validMarker _ hp, dec_true h1, c_marker_ascend _ hp, dec_true h2, hk]
  · refine ⟨3, e_marker_Check l ?_, by omega, fun h => absurd h.1 hl⟩
    simp (disch := omega) [brn_pos]
    rfl

def OkScript (x : GScript) : Prop :=
  (0 ≤ x.Paper ∧ x.Paper ≤ 31) ∧ (0 ≤ x.Candidate ∧ x.Candidate ≤ 9999) ∧ (0 ≤ x.Centre ∧ x.Centre ≤ 99) ∧ (0 ≤ x.Variant ∧ x.Variant ≤ 31) ∧ x.Number = x.Paper * 10000 + x.Candidate ∧ x.Pages.length ≤ 12

def OkScripts (l : List GScript) : Prop := l.length ≤ 60 ∧ (∀ x ∈ l, OkScript x) ∧ AscBy GScript.Number l

theorem okScripts_iff {l : List GScript} (hl : l.length ≤ 60) : (∀ j (hj : j < l.length), OkScript l[j] ∧ ∀ h : 0 < j, (l[j - 1]'(by omega)).Number < l[j].Number) ↔ OkScripts l := by
  unfold OkScripts
  rw [← asc_iff, ← all_get]
  exact ⟨fun h => ⟨hl, fun j hj => (h j hj).1, fun j hj => (h j hj).2⟩, fun h j hj => ⟨h.2.1 j hj, h.2.2 j hj⟩⟩

theorem c_marker_CheckScripts (l : List GScript) : ∃ e, cw f_marker_CheckScripts [.sl 7 (List.map nGScript l)] [] = some (q_marker_CheckScripts e) ∧ (e = 0 ↔ OkScripts l) := by
  by_cases hl : l.length ≤ 60
  · have H := all_err l.length (fun j hj => OkScript l[j] ∧ ∀ h : 0 < j, (l[j - 1]'(by omega)).Number < l[j].Number) (fun i => k_marker_CheckScripts_1 l i) (fun e => q_marker_CheckScripts e) ?_ ?_ ?_
    · obtain ⟨e, h1, h2⟩ := H
      exact ⟨e, e_marker_CheckScripts l (by simp (disch := omega) [brn_neg, h1]), h2.trans (okScripts_iff hl)⟩
    · exact t_marker_CheckScripts_1 _ _ (by simp (disch := omega) [brn_neg] <;> rfl)
    · intro i hi hg
      by_cases h1 : OkScript l[i]
      · have h0 : 0 < i := by
          apply Nat.pos_of_ne_zero
          rintro rfl
          exact hg ⟨h1, fun h => absurd h (by omega)⟩
        have h3 : ¬ (l[i - 1].Number < l[i].Number) := fun h => hg ⟨h1, fun _ => h⟩
        refine ⟨43, by omega, t_marker_CheckScripts_1 _ _ ?_⟩
        obtain ⟨a1, a2, a3, a4, a5, a6⟩ := h1
        simp (disch := omega) [brn_pos, brn_neg, chk_pos, w64_id, toNat_pred h0, c_marker_isPaper, dec_true a1]
        rw [← a5]
        simp
        rfl
      · by_cases a1 : 0 ≤ l[i].Paper ∧ l[i].Paper ≤ 31
        · by_cases a2 : (0 ≤ l[i].Candidate ∧ l[i].Candidate ≤ 9999) ∧ (0 ≤ l[i].Centre ∧ l[i].Centre ≤ 99) ∧ (0 ≤ l[i].Variant ∧ l[i].Variant ≤ 31)
          · refine ⟨1, by omega, t_marker_CheckScripts_1 _ _ ?_⟩
            simp (disch := omega) [brn_pos, brn_neg, chk_pos, w64_id, c_marker_isPaper, dec_true a1]
            by_cases a3 : l[i].Number = l[i].Paper * 10000 + l[i].Candidate
            · have a4 : 12 < (l[i].Pages.length : Int) := by
                apply Int.not_le.1
                intro h
                exact h1 ⟨a1, a2.1, a2.2.1, a2.2.2, a3, by omega⟩
              simp (disch := omega) [a3, brn_pos]
              rfl
            · simp [show (l[i].Number != l[i].Paper * 10000 + l[i].Candidate) = true by simpa using a3]
              rfl
          · refine ⟨2, by omega, t_marker_CheckScripts_1 _ _ ?_⟩
            simp (disch := omega) [brn_pos, chk_pos, c_marker_isPaper, dec_true a1]
            simp only [brn_ite, decide_eq_true_eq]
            repeat' split
            all_goals first
              | rfl
              | omega
        · refine ⟨2, by omega, t_marker_CheckScripts_1 _ _ ?_⟩
          simp (disch := omega) [brn_pos, chk_pos, c_marker_isPaper, dec_false a1]
          rfl
    · intro i hi y hg hk
      obtain ⟨h1, h3⟩ := hg
      refine t_marker_CheckScripts_1 _ _ ?_
      obtain ⟨a1, a2, a3, a4, a5, a6⟩ := h1
      by_cases h0 : 0 < i
      · have h4 := h3 h0
        simp (disch := omega) [brn_pos, brn_neg, chk_pos, w64_id, toNat_pred h0, c_marker_isPaper, dec_true a1, ← a5, hk]
      · simp (disch := omega) [brn_pos, brn_neg, chk_pos, w64_id, c_marker_isPaper, dec_true a1, ← a5, hk]
  · refine ⟨3, e_marker_CheckScripts l ?_, by omega, fun h => absurd h.1 hl⟩
    simp (disch := omega) [brn_pos]
    rfl
end Go.Proofs.YtdhibifcofaioaaGreat

namespace Go.Proofs.YtdhibifcofaioaaGreat
open Go.Ab
set_option linter.unusedSimpArgs false

theorem c_ref24_Check (l : List GMarker) (hs : ∀ m ∈ l, m.Papers.length ≤ 1000000) (hok : OkMarkers l) : cw f_ref24_Check [.sl 5 (List.map nGMarker l)] [] = some (q_ref24_Check 0) := by
  obtain ⟨hl, hm, ha⟩ := hok
  refine e_ref24_Check l ?_
  simp (disch := omega) only [List.length_map, brn_neg]
  refine range_int l (fun i r => k_ref24_Check_1 l i = some (q_ref24_Check 0)) ?_ ?_
  · exact t_ref24_Check_1 _ _ (by simp (disch := omega) [brn_neg] <;> rfl)
  · intro i hi r hr ih
    have hp := hs _ (List.getElem_mem hi)
    obtain ⟨⟨a1, a2, a3, a4, a5⟩, a6⟩ := hm _ (List.getElem_mem hi)
    have last : ∀ j : Nat, l[i].Papers.length ≤ j → k_ref24_Check_3 l i l[i] j = some (q_ref24_Check 0) := by
      intro j hj
      refine t_ref24_Check_3 _ _ _ _ ?_
      by_cases h : 0 < i
      · have := asc_iff.2 ha i hi h
        simp (disch := omega) [brn_pos, brn_neg, chk_pos, w64_id, toNat_pred h, ih]
      · simp (disch := omega) [brn_neg, w64_id, ih]
    have third : k_ref24_Check_3 l i l[i] 1 = some (q_ref24_Check 0) := by
      by_cases h1 : 1 ≤ l[i].Papers.length
      · have H := all_gen (l[i].Papers.length - 1) (fun j hj => l[i].Papers[j] < l[i].Papers[j + 1]) (fun j => k_ref24_Check_3 l i l[i] (j + 1)) (fun _ => True) (q_ref24_Check 0) (fun _ => by
            have := last l[i].Papers.length (Nat.le_refl _)
            rw [show (((l[i].Papers.length - 1 : Nat) : Int) + 1) = (l[i].Papers.length : Int) by omega]; exact this)
          (fun j hj _ hn => absurd (a6 j (by omega)) hn)
          (fun j hj z hg hz => by
            have hg' : l[i].Papers[j] < l[i].Papers[j + 1] := hg
            refine t_ref24_Check_3 _ _ _ _ ?_
            have e1 : ((j : Int) + 1).toNat = j + 1 := by omega
            simp (disch := omega) [brn_pos, brn_neg, chk_pos, w64_id, e1, hz])
        rcases H with ⟨_, h⟩ | ⟨⟨j, hj, hn⟩, _⟩
        · exact h
        · exact absurd (a6 j (by omega)) hn
      · have := last 1 (by omega)
        simpa using this
    have second : k_ref24_Check_2 l i l[i] 0 = some (q_ref24_Check 0) := by
      refine range_int l[i].Papers (fun j r => k_ref24_Check_2 l i l[i] j = some (q_ref24_Check 0)) ?_ ?_
      · refine t_ref24_Check_2 _ _ _ _ ?_
        simp (disch := omega) [brn_neg, third]
      · intro j hj r hr ih2
        refine t_ref24_Check_2 _ _ _ _ ?_
        simp (disch := omega) [brn_pos, chk_pos, w64_id, c_ref24_in, dec_true (a5 _ (List.getElem_mem hj)), ih2]
    refine t_ref24_Check_1 _ _ ?_
    simp (disch := omega) [brn_pos, chk_pos, c_ref24_in, dec_true a1, dec_true a2, dec_true a3, dec_true a4, second]

theorem c_ref24_CheckScripts (l : List GScript) : ∃ e, cw f_ref24_CheckScripts [.sl 7 (List.map nGScript l)] [] = some (q_ref24_CheckScripts e) ∧ (e = 0 ↔ OkScripts l) := by
  by_cases hl : l.length ≤ 60
  · have H := all_err l.length (fun j hj => OkScript l[j] ∧ ∀ h : 0 < j, (l[j - 1]'(by omega)).Number < l[j].Number) (fun i => k_ref24_CheckScripts_1 l i) (fun e => q_ref24_CheckScripts e) ?_ ?_ ?_
    · obtain ⟨e, h1, h2⟩ := H
      exact ⟨e, e_ref24_CheckScripts l (by simp (disch := omega) [brn_neg, h1]), h2.trans (okScripts_iff hl)⟩
    · exact t_ref24_CheckScripts_1 _ _ (by simp (disch := omega) [brn_neg] <;> rfl)
    · intro i hi hg
      by_cases a1 : (0 ≤ l[i].Paper ∧ l[i].Paper ≤ 31)
      case neg =>
        refine ⟨2, by omega, t_ref24_CheckScripts_1 _ _ ?_⟩
        simp (disch := omega) [brn_pos, chk_pos, c_ref24_in, dec_false a1]
        rfl
      by_cases a2 : (0 ≤ l[i].Candidate ∧ l[i].Candidate ≤ 9999)
      case neg =>
        refine ⟨2, by omega, t_ref24_CheckScripts_1 _ _ ?_⟩
        simp (disch := omega) [brn_pos, chk_pos, c_ref24_in, dec_true a1, dec_false a2]
        rfl
      by_cases a3 : (0 ≤ l[i].Centre ∧ l[i].Centre ≤ 99)
      case neg =>
        refine ⟨2, by omega, t_ref24_CheckScripts_1 _ _ ?_⟩
        simp (disch := omega) [brn_pos, chk_pos, c_ref24_in, dec_true a1, dec_true a2, dec_false a3]
        rfl
      by_cases a4 : (0 ≤ l[i].Variant ∧ l[i].Variant ≤ 31)
      case neg =>
        refine ⟨2, by omega, t_ref24_CheckScripts_1 _ _ ?_⟩
        simp (disch := omega) [brn_pos, chk_pos, c_ref24_in, dec_true a1, dec_true a2, dec_true a3, dec_false a4]
        rfl
      by_cases a5 : l[i].Number = l[i].Paper * 10000 + l[i].Candidate
      case neg =>
        refine ⟨1, by omega, t_ref24_CheckScripts_1 _ _ ?_⟩
        simp (disch := omega) [brn_pos, chk_pos, c_ref24_in, dec_true a1, dec_true a2, dec_true a3, dec_true a4, w64_id, show (l[i].Number != l[i].Paper * 10000 + l[i].Candidate) = true by simpa using a5]
        rfl
      by_cases a6 : l[i].Pages.length ≤ 12
      case neg =>
        refine ⟨1, by omega, t_ref24_CheckScripts_1 _ _ ?_⟩
        simp (disch := omega) [brn_pos, chk_pos, c_ref24_in, dec_true a1, dec_true a2, dec_true a3, dec_true a4, w64_id, ← a5]
        rfl
      have h1 : OkScript l[i] := ⟨a1, a2, a3, a4, a5, a6⟩
      have h0 : 0 < i := by
        apply Nat.pos_of_ne_zero
        rintro rfl
        exact hg ⟨h1, fun h => absurd h (by omega)⟩
      have h3 : ¬ (l[i - 1].Number < l[i].Number) := fun h => hg ⟨h1, fun _ => h⟩
      refine ⟨43, by omega, t_ref24_CheckScripts_1 _ _ ?_⟩
      simp (disch := omega) [brn_pos, brn_neg, chk_pos, w64_id, toNat_pred h0, c_ref24_in, dec_true a1, dec_true a2, dec_true a3, dec_true a4, ← a5]
      rfl
    · intro i hi y hg hk
      obtain ⟨h1, h3⟩ := hg
      refine t_ref24_CheckScripts_1 _ _ ?_
      obtain ⟨a1, a2, a3, a4, a5, a6⟩ := h1
      by_cases h0 : 0 < i
      · have h4 := h3 h0
        simp (disch := omega) [brn_pos, brn_neg, chk_pos, w64_id, toNat_pred h0, c_ref24_in, dec_true a1, dec_true a2, dec_true a3, dec_true a4, ← a5, hk]
      · simp (disch := omega) [brn_pos, brn_neg, chk_pos, w64_id, c_ref24_in, dec_true a1, dec_true a2, dec_true a3, dec_true a4, ← a5, hk]
  · refine ⟨3, e_ref24_CheckScripts l ?_, by omega, fun h => absurd h.1 hl⟩
    simp (disch := omega) [brn_pos]
    rfl

def OkMon (r : GMonitorRule) : Prop := (0 ≤ r.Part ∧ r.Part ≤ 200) ∧ (0 ≤ r.Total ∧ r.Total ≤ 200) ∧ (1 ≤ r.Window ∧ r.Window ≤ 20) ∧ (1 ≤ r.Fails ∧ r.Fails ≤ r.Window)

theorem c_isScore (n : Int) : cw f_monitor_isScore [I n] [] = some (q_monitor_isScore (dec (0 ≤ n ∧ n ≤ 200))) := by
  refine e_monitor_isScore n ?_
  simp only [brn_ite, decide_eq_true_eq]
  split
  · rw [show decide (n ≤ 200) = dec (0 ≤ n ∧ n ≤ 200) from dec_bool (by simp only [decide_eq_true_eq]; omega)]; rfl
  · rw [dec_false (by omega)]; rfl

theorem c_monitor_Check (r : GMonitorRule) (h : OkMon r) : cw f_monitor_Check [.agg (nGMonitorRule r)] [] = some (q_monitor_Check 0) := by
  obtain ⟨h1, h2, h3, h4⟩ := h
  refine e_monitor_Check r ?_
  simp (disch := omega) [brn_neg, c_isScore, dec_true h1, dec_true h2]
  rfl

theorem c_ref27_Check (r : GMonitorRule) (h : OkMon r) : cw f_ref27_Check [.agg (nGMonitorRule r)] [] = some (q_ref27_Check 0) := by
  obtain ⟨h1, h2, h3, h4⟩ := h
  refine e_ref27_Check r ?_
  simp (disch := omega) [brn_neg]
  rfl

/-! ## membership -/

theorem c_Contains (l : List Int) (n : Int) (hl : l.length ≤ 1000000) : cw f_slices_Contains_int_int [.sl 1 (List.map nI_i64 l), I n] [] = some (q_slices_Contains_int_int (dec (n ∈ l))) := by
  refine e_slices_Contains_int_int l n ?_
  have key := find_gen l (fun x => n == x) (fun i => k_slices_Index_int_int_1 l n i) (fun o => q_slices_Index_int_int (match o with | some (i, _) => (i : Int) | none => -1)) ?_ ?_ ?_
  · rw [e_slices_Index_int_int l n key, callD_slices_Index_int_int]
    cases hf : fnd (fun x => n == x) 0 l with
    | none =>
      rw [dec_false (fun h => by have := fnd_none.1 hf n h; simp at this)]
      rfl
    | some q =>
      obtain ⟨i, x⟩ := q
      obtain ⟨h1, h2, _⟩ := fnd_at hf
      have : n = x := by simpa using h2
      subst this
      rw [dec_true (List.mem_of_getElem? h1)]
      show some (B (decide (0 ≤ (i : Int))), []) = _
      rw [show decide (0 ≤ (i : Int)) = true by simp]
      rfl
  · exact t_slices_Index_int_int_1 _ _ _ (by simp (disch := omega) [brn_neg] <;> rfl)
  · intro i hi h
    refine t_slices_Index_int_int_1 _ _ _ ?_
    simp (disch := omega) [brn_pos, chk_pos, h]
    rfl
  · intro i hi y h hk
    refine t_slices_Index_int_int_1 _ _ _ ?_
    simp (disch := omega) [brn_pos, chk_pos, w64_id, h, hk]

theorem c_Has (l : List Int) (n : Int) (hl : l.length ≤ 1000000) : cw f_ref06_Has [.sl 1 (List.map nI_i64 l), I n] [] = some (q_ref06_Has (dec (n ∈ l))) := by
  refine e_ref06_Has l n ?_
  have key := any_bool l.length (fun j hj => l[j] = n) (fun i => k_ref06_Has_1 l n i) (fun b => q_ref06_Has b) ?_ ?_ ?_
  · rw [key]
    congr 2
    refine dec_iff ⟨fun ⟨j, hj, h⟩ => h ▸ List.getElem_mem hj, fun h => ?_⟩
    obtain ⟨j, hj, rfl⟩ := List.mem_iff_getElem.1 h
    exact ⟨j, hj, rfl⟩
  · exact t_ref06_Has_1 _ _ _ (by simp (disch := omega) [brn_neg] <;> rfl)
  · intro i hi h
    refine t_ref06_Has_1 _ _ _ ?_
    simp (disch := omega) [brn_pos, chk_pos, h]
    rfl
  · intro i hi y h hk
    refine t_ref06_Has_1 _ _ _ ?_
    simp (disch := omega) [brn_pos, chk_pos, w64_id, show (l[i] == n) = false by simpa using h, hk]

noncomputable def accB (x : GPart) (ks : List Int) (v : Int) : Bool := if ks = [] then v == x.Key else dec (v ∈ ks)

theorem c_accepts (x : GPart) (ks : List Int) (v : Int) (hl : ks.length ≤ 1000000) : cw f_scheme_accepts [.agg (nGPart x), .sl 1 (List.map nI_i64 ks), I v] [] = some (q_scheme_accepts (accB x ks v)) := by
  refine e_scheme_accepts x ks v ?_
  unfold accB
  by_cases h : ks = []
  · rw [if_pos h, h]; rfl
  · rw [if_neg h]
    have : ((ks.length : Int) == 0) = false := by simpa using h
    simp only [List.length_map, this, brn_false, c_Contains _ _ hl, callD_slices_Contains_int_int]
    rfl

def OkAns (p : GPaper) (a : List Int) : Prop := a.length = p.Parts.length ∧ ∀ (j : Nat) (x : GPart) (v : Int), p.Parts[j]? = some x → a[j]? = some v → x.Kind ≠ 1 → -2 ≤ v ∧ v < x.Options

noncomputable def closedAt (p : GPaper) (s : GScheme) (a : List Int) (j : Nat) : Int :=
  match p.Parts[j]?, s.Keys[j]?, a[j]? with
  | some x, some ks, some v => if x.Kind = 1 then -2 else if accB x ks v = true then x.Max else if v = -1 then -1 else 0
  | _, _, _ => 0

noncomputable def closedL (p : GPaper) (s : GScheme) (a : List Int) : List Int := (List.range p.Parts.length).map (closedAt p s a)

theorem kind2 {x : GPart} (h : OkPart x) : x.Kind = 1 ∨ x.Kind = 2 := by unfold OkPart at h; omega

theorem c_scheme_Closed (p : GPaper) (s : GScheme) (a : List Int) (hs : Short s) : ∃ r : List Int × Int, cw f_scheme_Closed [.agg (nGPaper p), .agg (nGScheme s), .sl 1 (List.map nI_i64 a)] [] = some (q_scheme_Closed r) ∧ (r.2 = 0 ↔ OkScheme p s ∧ OkAns p a) ∧ (r.2 = 0 → r.1 = closedL p s a) := by
  by_cases hp : OkScheme p s
  case neg =>
    refine ⟨([], 1), e_scheme_Closed p s a ?_, by simp [hp], by simp⟩
    simp only [c_scheme_Valid p s hs, callD_scheme_Valid, dec_false hp]
    rfl
  obtain ⟨hP, hk, hw, hall⟩ := id hp
  have hpl := hP.2.2.1
  by_cases ha : a.length = p.Parts.length
  case neg =>
    refine ⟨([], 22), e_scheme_Closed p s a ?_, by simp [OkAns, ha], by simp⟩
    simp only [c_scheme_Valid p s hs, callD_scheme_Valid, dec_true hp, Bool.not_true, brn_false, List.length_map, show ((a.length : Int) != p.Parts.length) = true by simpa using (by omega : ¬ ((a.length : Int) = p.Parts.length)), brn_true]
    rfl
  have start : ∀ y, k_scheme_Closed_1 p s a 0 = some y → cw f_scheme_Closed [.agg (nGPaper p), .agg (nGScheme s), .sl 1 (List.map nI_i64 a)] [] = some y := by
    intro y hy
    refine e_scheme_Closed p s a ?_
    simp only [c_scheme_Valid p s hs, callD_scheme_Valid, dec_true hp, Bool.not_true, brn_false, List.length_map, ha, bne_self_eq_false, hy]
  have second : k_scheme_Closed_2 p s a (List.map nI_i64 (List.replicate p.Parts.length 0)) 0 = some (q_scheme_Closed (closedL p s a, 0)) := by
    rw [← mkN_zero p.Parts.length (closedAt p s a) 0]
    have := range_int p.Parts (fun i r => k_scheme_Closed_2 p s a (List.map nI_i64 (mkN p.Parts.length (closedAt p s a) 0 i.toNat)) i = some (q_scheme_Closed (closedL p s a, 0))) ?_ ?_
    · exact this
    · refine t_scheme_Closed_2 _ _ _ _ _ ?_
      simp (disch := omega) only [List.length_map, brn_neg, Int.toNat_natCast, mkN_all, List.length_replicate, List.length_range, chk_pos, List.take_length, closedL.eq_1]
      rw [show List.take p.Parts.length (List.map nI_i64 (List.map (closedAt p s a) (List.range p.Parts.length))) = List.map nI_i64 (List.map (closedAt p s a) (List.range p.Parts.length)) from List.take_of_length_le (by simp)]
      rfl
    · intro i hi r hr ih
      have hi1 : i < s.Keys.length := by omega
      have hi2 : i < a.length := by omega
      have hkl := hs _ (List.getElem_mem hi1)
      refine t_scheme_Closed_2 _ _ _ _ _ ?_
      have hc : closedAt p s a i = if p.Parts[i].Kind = 1 then -2 else if accB p.Parts[i] s.Keys[i] a[i] = true then p.Parts[i].Max else if a[i] = -1 then -1 else 0 := by
        simp [closedAt, hi, hi1, hi2]
      have e1 : ((i : Int) + 1).toNat = i + 1 := by omega
      rw [e1] at ih
      have hgi : (mkN p.Parts.length (closedAt p s a) 0 i)[i]? = some 0 := mkN_get hi
      rcases kind2 (hP.2.2.2.1 _ (List.getElem_mem hi)) with h1 | h1
      · rw [if_pos h1] at hc
        simp (disch := omega) [brn_pos, chk_pos, h1, w64_id, hgi, map_set', mkN_set hc.symm, -List.map_set, ih]
      · rw [if_neg (by omega)] at hc
        cases hb : accB p.Parts[i] s.Keys[i] a[i] with
        | true =>
          rw [if_pos hb] at hc
          simp (disch := omega) [brn_pos, chk_pos, h1, w64_id, hgi, map_set', mkN_set hc.symm, -List.map_set, ih, c_accepts _ _ _ hkl, hb]
        | false =>
          rw [if_neg (by rw [hb]; simp)] at hc
          by_cases h2 : a[i] = -1
          · rw [if_pos h2] at hc
            simp (disch := omega) [brn_pos, chk_pos, h1, w64_id, hgi, map_set', mkN_set hc.symm, -List.map_set, ih, c_accepts _ _ _ hkl, hb, ← h2]
            simp (disch := omega) [h2, map_set', mkN_set hc.symm, -List.map_set, ih]
          · rw [if_neg h2] at hc
            simp (disch := omega) [brn_pos, chk_pos, h1, w64_id, mkN_same hc, ih, c_accepts _ _ _ hkl, hb, show (a[i] == -1) = false by simpa using h2]
  have hfst : ∀ j (hj : j < p.Parts.length), (p.Parts[j].Kind ≠ 1 → -2 ≤ a[j]'(by omega) ∧ a[j]'(by omega) < p.Parts[j].Options) ↔ (p.Parts[j].Kind = 2 → -2 ≤ a[j]'(by omega) ∧ a[j]'(by omega) < p.Parts[j].Options) := by
    intro j hj
    have := kind2 (hP.2.2.2.1 _ (List.getElem_mem hj))
    omega
  have H := all_gen p.Parts.length (fun j hj => p.Parts[j].Kind ≠ 1 → -2 ≤ a[j]'(by omega) ∧ a[j]'(by omega) < p.Parts[j].Options) (fun i => k_scheme_Closed_1 p s a i) (fun y => y = q_scheme_Closed ([], 2)) (q_scheme_Closed (closedL p s a, 0)) ?_ ?_ ?_
  · rcases H with ⟨h1, h2⟩ | ⟨⟨j, hj, h1⟩, y, rfl, h3⟩
    · refine ⟨_, start _ h2, ⟨fun _ => ⟨hp, ha, fun j x v q1 q2 q3 => ?_⟩, fun _ => rfl⟩, fun _ => rfl⟩
      obtain ⟨hj, rfl⟩ := List.getElem?_eq_some_iff.1 q1
      obtain ⟨_, rfl⟩ := List.getElem?_eq_some_iff.1 q2
      exact h1 j hj q3
    · refine ⟨_, start _ h3, ⟨fun h => by simp at h, fun h => ?_⟩, fun h => by simp at h⟩
      exact absurd (fun q3 => h.2.2 j _ _ (List.getElem?_eq_getElem hj) (List.getElem?_eq_getElem (by omega)) q3) h1
  · intro _
    refine t_scheme_Closed_1 _ _ _ _ ?_
    rw [← map_rep] at second
    simp (disch := omega) only [List.length_map, brn_neg, chk_pos, chk_true, Int.toNat_natCast, second]
  · intro i hi _ hn
    have hi2 : i < a.length := by omega
    refine ⟨_, rfl, t_scheme_Closed_1 _ _ _ _ ?_⟩
    rcases kind2 (hP.2.2.2.1 _ (List.getElem_mem hi)) with h1 | h1
    · exact absurd (fun h => absurd h1 h) hn
    · have h2 : ¬ (-2 ≤ a[i] ∧ a[i] < p.Parts[i].Options) := fun h => hn (fun _ => h)
      have hop : 2 ≤ p.Parts[i].Options := by have := (hP.2.2.2.1 _ (List.getElem_mem hi)); unfold OkPart at this; omega
      have h3 : a[i] ≠ -1 := fun h => h2 (by omega)
      have h4 : a[i] ≠ -2 := fun h => h2 (by omega)
      by_cases h5 : a[i] < 0
      · simp (disch := omega) [brn_pos, chk_pos, h1, show (a[i] != -1) = true by simpa using h3, show (a[i] != -2) = true by simpa using h4]
        rfl
      · simp (disch := omega) [brn_pos, brn_neg, chk_pos, h1, show (a[i] != -1) = true by simpa using h3, show (a[i] != -2) = true by simpa using h4]
        rfl
  · intro i hi y hg hk'
    have hi2 : i < a.length := by omega
    refine t_scheme_Closed_1 _ _ _ _ ?_
    rcases kind2 (hP.2.2.2.1 _ (List.getElem_mem hi)) with h1 | h1
    · simp (disch := omega) [brn_pos, chk_pos, h1, w64_id, hk']
    · have h2 := hg (by omega)
      by_cases h3 : a[i] = -1
      · simp (disch := omega) [brn_pos, chk_pos, h1, w64_id, h3, hk']
      · by_cases h4 : a[i] = -2
        · simp (disch := omega) [brn_pos, chk_pos, h1, w64_id, h4, hk']
        · simp (disch := omega) [brn_pos, brn_neg, chk_pos, h1, show (a[i] != -1) = true by simpa using h3, show (a[i] != -2) = true by simpa using h4, w64_id, hk']

theorem c_ref23_Accepts (p : GPaper) (s : GScheme) (hs : Short s) (hp : OkScheme p s) (j : Nat) (hj : j < p.Parts.length) (hj1 : j < s.Keys.length) (h2 : p.Parts[j].Kind = 2) (v : Int) :
    cw f_ref23_Accepts [.agg (nGPaper p), .agg (nGScheme s), I j, I v] [] = some (q_ref23_Accepts (accB p.Parts[j] s.Keys[j] v)) := by
  refine e_ref23_Accepts p s j v ?_
  have hkl := hs _ (List.getElem_mem hj1)
  unfold accB
  by_cases h : s.Keys[j] = []
  · simp (disch := omega) [c_ref23_Valid p s hs, dec_true hp, brn_neg, chk_pos, h2, h]
    rfl
  · have hne : (((s.Keys[j]).length : Int) == 0) = false := by simpa using h
    simp (disch := omega) [c_ref23_Valid p s hs, dec_true hp, brn_neg, chk_pos, h2, h, c_Has _ _ hkl]
    rw [hne, brn_false]
    rfl

theorem c_ref23_Closed (p : GPaper) (s : GScheme) (a : List Int) (hs : Short s) : ∃ r : List Int × Int, cw f_ref23_Closed [.agg (nGPaper p), .agg (nGScheme s), .sl 1 (List.map nI_i64 a)] [] = some (q_ref23_Closed r) ∧ (r.2 = 0 ↔ OkScheme p s ∧ OkAns p a) ∧ (r.2 = 0 → r.1 = closedL p s a) := by
  by_cases hp : OkScheme p s
  case neg =>
    refine ⟨([], 1), e_ref23_Closed p s a ?_, by simp [hp], by simp⟩
    simp only [c_ref23_Valid p s hs, callD_ref23_Valid, dec_false hp]
    rfl
  obtain ⟨hP, hk, hw, hall⟩ := id hp
  have hpl := hP.2.2.1
  by_cases ha : a.length = p.Parts.length
  case neg =>
    refine ⟨([], 22), e_ref23_Closed p s a ?_, by simp [OkAns, ha], by simp⟩
    simp only [c_ref23_Valid p s hs, callD_ref23_Valid, dec_true hp, Bool.not_true, brn_false, List.length_map, show ((a.length : Int) != p.Parts.length) = true by simpa using (by omega : ¬ ((a.length : Int) = p.Parts.length)), brn_true]
    rfl
  have start : ∀ y, k_ref23_Closed_1 p s a (List.map nI_i64 []) 0 = some y → cw f_ref23_Closed [.agg (nGPaper p), .agg (nGScheme s), .sl 1 (List.map nI_i64 a)] [] = some y := by
    intro y hy
    refine e_ref23_Closed p s a ?_
    simp only [c_ref23_Valid p s hs, callD_ref23_Valid, dec_true hp, Bool.not_true, brn_false, List.length_map, ha, bne_self_eq_false]
    exact hy
  have H := all_gen p.Parts.length (fun j hj => p.Parts[j].Kind ≠ 1 → -2 ≤ a[j]'(by omega) ∧ a[j]'(by omega) < p.Parts[j].Options) (fun i => k_ref23_Closed_1 p s a (List.map nI_i64 ((List.range i.toNat).map (closedAt p s a))) i) (fun y => y = q_ref23_Closed ([], 2)) (q_ref23_Closed (closedL p s a, 0)) ?_ ?_ ?_
  · rcases H with ⟨h1, h2⟩ | ⟨⟨j, hj, h1⟩, y, rfl, h3⟩
    · refine ⟨_, start _ h2, ⟨fun _ => ⟨hp, ha, fun j x v q1 q2 q3 => ?_⟩, fun _ => rfl⟩, fun _ => rfl⟩
      obtain ⟨hj, rfl⟩ := List.getElem?_eq_some_iff.1 q1
      obtain ⟨_, rfl⟩ := List.getElem?_eq_some_iff.1 q2
      exact h1 j hj q3
    · refine ⟨_, start _ h3, ⟨fun h => by simp at h, fun h => ?_⟩, fun h => by simp at h⟩
      exact absurd (fun q3 => h.2.2 j _ _ (List.getElem?_eq_getElem hj) (List.getElem?_eq_getElem (by omega)) q3) h1
  · intro _
    refine t_ref23_Closed_1 _ _ _ _ _ ?_
    simp (disch := omega) only [List.length_map, brn_neg, chk_pos, Int.toNat_natCast, List.length_range]
    rw [show List.take p.Parts.length (List.map nI_i64 (List.map (closedAt p s a) (List.range p.Parts.length))) = List.map nI_i64 (closedL p s a) from List.take_of_length_le (by simp)]
    rfl
  · intro i hi _ hn
    have hi2 : i < a.length := by omega
    refine ⟨_, rfl, t_ref23_Closed_1 _ _ _ _ _ ?_⟩
    rcases kind2 (hP.2.2.2.1 _ (List.getElem_mem hi)) with h1 | h1
    · exact absurd (fun h => absurd h1 h) hn
    · have h2 : ¬ (-2 ≤ a[i] ∧ a[i] < p.Parts[i].Options) := fun h => hn (fun _ => h)
      by_cases h5 : a[i] < -2
      · simp (disch := omega) [brn_pos, chk_pos, h1]
        rfl
      · simp (disch := omega) [brn_pos, brn_neg, chk_pos, h1]
        rfl
  · intro i hi y hg hk'
    have hi1 : i < s.Keys.length := by omega
    have hi2 : i < a.length := by omega
    have e1 : ((i : Int) + 1).toNat = i + 1 := by omega
    have hc : closedAt p s a i = if p.Parts[i].Kind = 1 then -2 else if accB p.Parts[i] s.Keys[i] a[i] = true then p.Parts[i].Max else if a[i] = -1 then -1 else 0 := by
      simp [closedAt, hi, hi1, hi2]
    simp only [e1, List.range_succ, List.map_append, List.map_cons, List.map_nil] at hk'
    have hx := hP.2.2.2.1 _ (List.getElem_mem hi)
    refine t_ref23_Closed_1 _ _ _ _ _ ?_
    rcases kind2 hx with h1 | h1
    · rw [hc, if_pos h1] at hk'
      simp (disch := omega) only [List.length_map, List.length_range, List.length_append, List.length_cons, List.length_nil, brn_pos, chk_pos, chk_true, Int.toNat_natCast, elemD_GPart, List.getElem?_eq_getElem hi, Option.bind_some, h1, beq_self_eq_true, brn_true, w64_id]
      exact hk'
    · rw [hc, if_neg (by omega)] at hk'
      have h2 := hg (by omega)
      have hacc := c_ref23_Accepts p s hs hp i hi hi1 h1 a[i]
      have hk2 : (p.Parts[i].Kind == 1) = false := by rw [h1]; rfl
      have fin : ∀ v : Int, v = (if accB p.Parts[i] s.Keys[i] a[i] = true then p.Parts[i].Max else if a[i] = -1 then -1 else 0) → k_ref23_Closed_1018v1 p s a (List.map nI_i64 ((List.range i).map (closedAt p s a))) i v = some y := by
        intro v hv
        refine t_ref23_Closed_1018v1 _ _ _ _ _ _ ?_
        simp (disch := omega) only [List.length_map, List.length_range, List.length_append, List.length_cons, List.length_nil, chk_pos, chk_true, w64_id]
        rw [hv]
        exact hk'
      have noacc : a[i] = -1 → accB p.Parts[i] s.Keys[i] a[i] = false := by
        intro h
        unfold accB
        have hks := (hall i _ _ (s.Withdrawn[i]'(by omega)) (List.getElem?_eq_getElem hi) (List.getElem?_eq_getElem hi1) (List.getElem?_eq_getElem (by omega))).1
        split
        · have : 0 ≤ p.Parts[i].Key := by unfold OkPart at hx; omega
          simp only [beq_eq_false_iff_ne]; omega
        · exact dec_false (fun hm => by have := hks.1 _ hm; omega)
      have e16 : ∀ v : Int, k_ref23_Closed_1018 p s a (List.map nI_i64 ((List.range i).map (closedAt p s a))) i = some y ∨ a[i] ≠ -1 := by
        intro _
        by_cases h3 : a[i] = -1
        · left
          refine t_ref23_Closed_1018 _ _ _ _ _ ?_
          simp (disch := omega) only [List.length_map, List.length_range, List.length_append, List.length_cons, List.length_nil, chk_pos, chk_true, w64_id]
          rw [if_neg (by rw [noacc h3]; simp), if_pos h3] at hk'
          exact hk'
        · exact .inr h3
      simp (disch := omega) only [List.length_map, brn_pos, brn_neg, chk_pos, Int.toNat_natCast, elemD_GPart, elemD_I_i64, List.getElem?_eq_getElem hi, List.getElem?_eq_getElem hi2, Option.bind_some, hk2, brn_false, hacc, callD_ref23_Accepts]
      cases hb : accB p.Parts[i] s.Keys[i] a[i] with
      | true =>
        have h3 : a[i] ≠ -1 := fun h => by rw [noacc h] at hb; cases hb
        rw [brn_true]
        refine t_ref23_Closed_1016 _ _ _ _ _ _ ?_
        simp (disch := omega) only [chk_pos, Int.toNat_natCast, elemD_I_i64, List.getElem?_eq_getElem hi2, Option.bind_some, show (a[i] == -1) = false by simpa using h3, brn_false]
        exact fin _ (by rw [if_pos hb])
      | false =>
        rw [brn_false]
        refine t_ref23_Closed_1016v1 _ _ _ _ _ ?_
        by_cases h3 : a[i] = -1
        · simp (disch := omega) only [chk_pos, Int.toNat_natCast, elemD_I_i64, List.getElem?_eq_getElem hi2, Option.bind_some, show (a[i] == -1) = true by simpa using h3, brn_true]
          exact (e16 0).resolve_right (fun h => h h3)
        · simp (disch := omega) only [chk_pos, Int.toNat_natCast, elemD_I_i64, List.getElem?_eq_getElem hi2, Option.bind_some, show (a[i] == -1) = false by simpa using h3, brn_false]
          exact fin _ (by rw [if_neg (by rw [hb]; simp), if_neg h3])
end Go.Proofs.YtdhibifcofaioaaGreat

namespace Go.Proofs.YtdhibifcofaioaaGreat
open Go.Ab
set_option linter.unusedSimpArgs false

def blankScript : GScript := ⟨0, 0, 0, 0, 0, [], []⟩

def scriptOf (l : List GScript) (n : Int) : Option GScript := (fnd (fun x => x.Number == n) 0 l).map (·.2)

def paperIx (ps : List GPaper) (x : GScript) : Option (Nat × GPaper) := fnd (fun p => p.Code == x.Paper && p.Variant == x.Variant) 0 ps

def ixR : Option (Nat × GPaper) → Int × Bool
  | some (i, _) => ((i : Int), true)
  | none => (0, false)

def scR : Option GScript → GScript × Bool
  | some x => (x, true)
  | none => (blankScript, false)

theorem c_scriptOf (s : GSetup) (n : Int) (hl : s.Scripts.length ≤ 1000000) : cw f_marking_scriptOf [.agg (nGSetup s), I n] [] = some (q_marking_scriptOf (scR (scriptOf s.Scripts n))) := by
  refine e_marking_scriptOf s n ?_
  have key := find_gen s.Scripts (fun x => x.Number == n) (fun i => k_marking_scriptOf_1 s n i) (fun o => q_marking_scriptOf (scR (o.map (·.2)))) ?_ ?_ ?_
  · exact key
  · exact t_marking_scriptOf_1 _ _ _ (by simp (disch := omega) [brn_neg] <;> rfl)
  · intro i hi h
    refine t_marking_scriptOf_1 _ _ _ ?_
    simp (disch := omega) [brn_pos, chk_pos, h]
    rfl
  · intro i hi y h hk
    refine t_marking_scriptOf_1 _ _ _ ?_
    simp (disch := omega) [brn_pos, chk_pos, w64_id, h, hk]

theorem c_ref24_Script (l : List GScript) (n : Int) (hl : l.length ≤ 1000000) : cw f_ref24_Script [.sl 7 (List.map nGScript l), I n] [] = some (q_ref24_Script (scR (scriptOf l n))) := by
  refine e_ref24_Script l n ?_
  have key := find_gen l (fun x => x.Number == n) (fun i => k_ref24_Script_1 l n i) (fun o => q_ref24_Script (scR (o.map (·.2)))) ?_ ?_ ?_
  · exact key
  · exact t_ref24_Script_1 _ _ _ (by simp (disch := omega) [brn_neg] <;> rfl)
  · intro i hi h
    refine t_ref24_Script_1 _ _ _ ?_
    simp (disch := omega) [brn_pos, chk_pos, h]
    rfl
  · intro i hi y h hk
    refine t_ref24_Script_1 _ _ _ ?_
    simp (disch := omega) [brn_pos, chk_pos, w64_id, h, hk]

theorem c_paperOf (s : GSetup) (x : GScript) (hl : s.Papers.length ≤ 1000000) : cw f_marking_paperOf [.agg (nGSetup s), .agg (nGScript x)] [] = some (q_marking_paperOf (ixR (paperIx s.Papers x))) := by
  refine e_marking_paperOf s x ?_
  have key := find_gen s.Papers (fun p => p.Code == x.Paper && p.Variant == x.Variant) (fun i => k_marking_paperOf_1 s x i) (fun o => q_marking_paperOf (ixR o)) ?_ ?_ ?_
  · exact key
  · exact t_marking_paperOf_1 _ _ _ (by simp (disch := omega) [brn_neg] <;> rfl)
  · intro i hi h
    refine t_marking_paperOf_1 _ _ _ ?_
    rw [Bool.and_eq_true] at h
    simp (disch := omega) [brn_pos, chk_pos, h.1, h.2]
    rfl
  · intro i hi y h hk
    refine t_marking_paperOf_1 _ _ _ ?_
    cases h1 : (s.Papers[i].Code == x.Paper) with
    | false => simp (disch := omega) [brn_pos, chk_pos, w64_id, h1, hk]
    | true =>
      rw [h1, Bool.true_and] at h
      simp (disch := omega) [brn_pos, chk_pos, w64_id, h1, h, hk]

theorem c_ref26_Paper (ps : List GPaper) (x : GScript) (hl : ps.length ≤ 1000000) : cw f_ref26_Paper [.sl 3 (List.map nGPaper ps), .agg (nGScript x)] [] = some (q_ref26_Paper (ixR (paperIx ps x))) := by
  refine e_ref26_Paper ps x ?_
  have key := find_gen ps (fun p => p.Code == x.Paper && p.Variant == x.Variant) (fun i => k_ref26_Paper_1 ps x i) (fun o => q_ref26_Paper (ixR o)) ?_ ?_ ?_
  · exact key
  · exact t_ref26_Paper_1 _ _ _ (by simp (disch := omega) [brn_neg] <;> rfl)
  · intro i hi h
    refine t_ref26_Paper_1 _ _ _ ?_
    rw [Bool.and_eq_true] at h
    simp (disch := omega) [brn_pos, chk_pos, h.1, h.2]
    rfl
  · intro i hi y h hk
    refine t_ref26_Paper_1 _ _ _ ?_
    cases h1 : (ps[i].Code == x.Paper) with
    | false => simp (disch := omega) [brn_pos, chk_pos, w64_id, h1, hk]
    | true =>
      rw [h1, Bool.true_and] at h
      simp (disch := omega) [brn_pos, chk_pos, w64_id, h1, h, hk]

def paperOf (s : GSetup) (n : Int) : Option (Nat × GPaper) := (scriptOf s.Scripts n).bind (paperIx s.Papers)

theorem c_PaperOf (s : GSetup) (n : Int) (h1 : s.Scripts.length ≤ 1000000) (h2 : s.Papers.length ≤ 1000000) : cw f_marking_PaperOf [.agg (nGSetup s), I n] [] = some (q_marking_PaperOf (ixR (paperOf s n))) := by
  refine e_marking_PaperOf s n ?_
  rw [c_scriptOf s n h1, callD_marking_scriptOf]
  unfold paperOf
  cases scriptOf s.Scripts n with
  | none => rfl
  | some x =>
    simp only [scR, Bool.not_true, brn_false, c_paperOf s x h2, callD_marking_paperOf, Option.bind_some]
    rfl

theorem c_ref29_PaperOf (s : GSetup) (n : Int) (h1 : s.Scripts.length ≤ 1000000) (h2 : s.Papers.length ≤ 1000000) : cw f_ref29_PaperOf [.agg (nGSetup s), I n] [] = some (q_ref29_PaperOf (ixR (paperOf s n))) := by
  refine e_ref29_PaperOf s n ?_
  rw [c_ref24_Script _ n h1, callD_ref24_Script]
  unfold paperOf
  cases scriptOf s.Scripts n with
  | none => rfl
  | some x =>
    simp only [scR, Bool.not_true, brn_false, c_ref26_Paper _ x h2, callD_ref26_Paper, Option.bind_some]
    rfl

def OkMarks (p : GPaper) (m : List Int) : Prop := m.length = p.Parts.length ∧ ∀ (j : Nat) (x : GPart) (v : Int), p.Parts[j]? = some x → m[j]? = some v → 0 ≤ v ∧ v ≤ x.Max

theorem c_validMarks (p : GPaper) (m : List Int) (hl : p.Parts.length ≤ 1000000) (h : OkMarks p m) : cw f_marking_validMarks [.agg (nGPaper p), .sl 1 (List.map nI_i64 m)] [] = some (q_marking_validMarks true) := by
  obtain ⟨h1, h2⟩ := h
  refine e_marking_validMarks p m ?_
  simp only [List.length_map, h1, bne_self_eq_false, brn_false]
  refine range_int p.Parts (fun i r => k_marking_validMarks_1 p m i = some (q_marking_validMarks true)) ?_ ?_
  · exact t_marking_validMarks_1 _ _ _ (by simp (disch := omega) [brn_neg] <;> rfl)
  · intro i hi r hr ih
    have hi2 : i < m.length := by omega
    have := h2 i _ _ (List.getElem?_eq_getElem hi) (List.getElem?_eq_getElem hi2)
    refine t_marking_validMarks_1 _ _ _ ?_
    simp (disch := omega) [brn_pos, brn_neg, chk_pos, w64_id, ih]

theorem c_ref26_Fits (p : GPaper) (m : List Int) (hl : p.Parts.length ≤ 1000000) (h : OkMarks p m) : cw f_ref26_Fits [.agg (nGPaper p), .sl 1 (List.map nI_i64 m)] [] = some (q_ref26_Fits true) := by
  obtain ⟨h1, h2⟩ := h
  refine e_ref26_Fits p m ?_
  simp only [List.length_map, h1, bne_self_eq_false, brn_false]
  refine range_int m (fun i r => k_ref26_Fits_1 p m i = some (q_ref26_Fits true)) ?_ ?_
  · exact t_ref26_Fits_1 _ _ _ (by simp (disch := omega) [brn_neg] <;> rfl)
  · intro i hi r hr ih
    have hi2 : i < p.Parts.length := by omega
    have := h2 i _ _ (List.getElem?_eq_getElem hi2) (List.getElem?_eq_getElem hi)
    refine t_ref26_Fits_1 _ _ _ ?_
    simp (disch := omega) [brn_pos, brn_neg, chk_pos, w64_id, ih]

structure OkSetup (s : GSetup) : Prop where
  markers : OkMarkers s.Markers
  scripts : OkScripts s.Scripts
  papers : s.Papers.length ≤ 32
  len : s.Schemes.length = s.Papers.length
  schemes : ∀ (j : Nat) (p : GPaper) (c : GScheme), s.Papers[j]? = some p → s.Schemes[j]? = some c → OkScheme p c
  script : ∀ x ∈ s.Scripts, ∃ (k : Nat) (p : GPaper) (c : GScheme), paperIx s.Papers x = some (k, p) ∧ s.Schemes[k]? = some c ∧ OkAns p x.Answers
  seeds : s.Seeds.length ≤ 12
  asc : AscBy GSeed.Script s.Seeds
  seed : ∀ x ∈ s.Seeds, ∃ (k : Nat) (p : GPaper), paperOf s x.Script = some (k, p) ∧ OkMarks p x.Marks
  monitor : OkMon s.Monitor
  short : ∀ c ∈ s.Schemes, Short c
  short2 : ∀ m ∈ s.Markers, m.Papers.length ≤ 1000000

theorem paperIx_at {ps : List GPaper} {x : GScript} {k : Nat} {p : GPaper} (hk : paperIx ps x = some (k, p)) : ps[k]? = some p ∧ p.Code = x.Paper ∧ p.Variant = x.Variant := by
  obtain ⟨h1, h2, _⟩ := fnd_at hk
  simp only [Bool.and_eq_true, beq_iff_eq] at h2
  exact ⟨h1, h2⟩

theorem scriptOf_at {l : List GScript} {n : Int} {x : GScript} (h : scriptOf l n = some x) : x ∈ l ∧ x.Number = n := by
  unfold scriptOf at h
  cases hf : fnd (fun x => x.Number == n) 0 l with
  | none => simp [hf] at h
  | some q =>
    obtain ⟨i, y⟩ := q
    rw [hf] at h
    simp only [Option.map_some, Option.some.injEq] at h
    subst h
    obtain ⟨h1, h2, _⟩ := fnd_at hf
    exact ⟨List.mem_of_getElem? h1, by simpa using h2⟩

theorem scriptOf_mem {l : List GScript} (h : AscBy GScript.Number l) {x : GScript} (hx : x ∈ l) : scriptOf l x.Number = some x := by
  obtain ⟨i, hi, rfl⟩ := List.mem_iff_getElem.1 hx
  unfold scriptOf
  rw [fnd_of (j := i) (x := l[i]) (List.getElem?_eq_getElem hi) (by simp) (fun k y hk hy => by
    obtain ⟨hk', rfl⟩ := List.getElem?_eq_some_iff.1 hy
    have := asc_lt h k i hi hk
    simp only [beq_eq_false_iff_ne]
    omega)]
  rfl

theorem paperOf_at {s : GSetup} {n : Int} {k : Nat} {p : GPaper} (hk : paperOf s n = some (k, p)) : s.Papers[k]? = some p := by
  unfold paperOf at hk
  cases hx : scriptOf s.Scripts n with
  | none => simp [hx] at hk
  | some x => rw [hx] at hk; exact (paperIx_at hk).1

section
variable {s : GSetup} (h : OkSetup s)
include h

theorem OkSetup.okPaper {k : Nat} {p : GPaper} (hk : s.Papers[k]? = some p) : OkPaper p := by
  have hlt := (List.getElem?_eq_some_iff.1 hk).1
  have := h.len
  exact (h.schemes k p _ hk (List.getElem?_eq_getElem (by omega))).1

theorem c_validPapers : cw f_marking_validPapers [.agg (nGSetup s)] [] = some (q_marking_validPapers true) := by
  have hp := h.papers
  have hl := h.len
  refine e_marking_validPapers s ?_
  simp (disch := omega) only [List.length_map, brn_neg, hl, bne_self_eq_false, brn_false]
  refine range_int s.Papers (fun i r => k_marking_validPapers_1 s i = some (q_marking_validPapers true)) ?_ ?_
  · exact t_marking_validPapers_1 _ _ (by simp (disch := omega) [brn_neg] <;> rfl)
  · intro i hi r hr ih
    have hi2 : i < s.Schemes.length := by omega
    have hv := h.schemes i _ _ (List.getElem?_eq_getElem hi) (List.getElem?_eq_getElem hi2)
    refine t_marking_validPapers_1 _ _ ?_
    simp (disch := omega) [brn_pos, chk_pos, w64_id, c_scheme_Valid _ _ (h.short _ (List.getElem_mem hi2)), dec_true hv, ih]

theorem c_validScripts : cw f_marking_validScripts [.agg (nGSetup s)] [] = some (q_marking_validScripts true) := by
  have hp := h.papers
  have hl := h.len
  have hsl := h.scripts.1
  refine e_marking_validScripts s ?_
  refine range_int s.Scripts (fun i r => k_marking_validScripts_1 s i = some (q_marking_validScripts true)) ?_ ?_
  · exact t_marking_validScripts_1 _ _ (by simp (disch := omega) [brn_neg] <;> rfl)
  · intro i hi r hr ih
    obtain ⟨k, p, c, q1, q2, q3⟩ := h.script _ (List.getElem_mem hi)
    have hpk := (paperIx_at q1).1
    obtain ⟨w, hw, hw1, hw2⟩ := c_scheme_Closed p c s.Scripts[i].Answers (h.short _ (List.mem_of_getElem? q2))
    have hw0 : w.2 = 0 := hw1.2 ⟨h.schemes k p c hpk q2, q3⟩
    refine t_marking_validScripts_1 _ _ ?_
    simp (disch := omega) [brn_pos, chk_pos, w64_id, c_paperOf s _ (by omega), q1, ixR, hpk, q2, hw, hw0, ih]

theorem c_validSeeds : cw f_marking_validSeeds [.agg (nGSetup s)] [] = some (q_marking_validSeeds true) := by
  have hp := h.papers
  have hl := h.seeds
  have hsl := h.scripts.1
  refine e_marking_validSeeds s ?_
  simp (disch := omega) only [List.length_map, brn_neg]
  refine range_int s.Seeds (fun i r => k_marking_validSeeds_1 s i = some (q_marking_validSeeds true)) ?_ ?_
  · exact t_marking_validSeeds_1 _ _ (by simp (disch := omega) [brn_neg] <;> rfl)
  · intro i hi r hr ih
    obtain ⟨k, p, q1, q2⟩ := h.seed _ (List.getElem_mem hi)
    have hpk := paperOf_at q1
    have hpl := (h.okPaper hpk).2.2.1
    have rest : k_marking_validSeeds_1008 s i s.Seeds[i] = some (q_marking_validSeeds true) := by
      refine t_marking_validSeeds_1008 _ _ _ ?_
      simp (disch := omega) [chk_pos, w64_id, c_PaperOf s _ (by omega) (by omega), q1, ixR, hpk, c_validMarks _ _ (by omega) q2, ih]
    refine t_marking_validSeeds_1 _ _ ?_
    by_cases h0 : 0 < i
    · have := asc_iff.2 h.asc i hi h0
      simp (disch := omega) [brn_pos, brn_neg, chk_pos, w64_id, toNat_pred h0, rest]
    · simp (disch := omega) [brn_pos, brn_neg, chk_pos, rest]

theorem c_marking_Check : cw f_marking_Check [.agg (nGSetup s)] [] = some (q_marking_Check 0) := by
  obtain ⟨e1, h1, h2⟩ := c_marker_Check s.Markers h.short2
  obtain ⟨e2, h3, h4⟩ := c_marker_CheckScripts s.Scripts
  have g1 := h2.2 h.markers
  have g2 := h4.2 h.scripts
  subst g1 g2
  refine e_marking_Check s ?_
  simp only [h1, h3, callD_marker_Check, callD_marker_CheckScripts, c_validPapers h, c_validScripts h, c_validSeeds h, c_monitor_Check _ h.monitor, callD_marking_validPapers, callD_marking_validScripts, callD_marking_validSeeds, callD_monitor_Check, bne_self_eq_false, Bool.not_true, brn_false]
  rfl

theorem c_ref29_Check : cw f_ref29_Check [.agg (nGSetup s)] [] = some (q_ref29_Check 0) := by
  obtain ⟨e2, h3, h4⟩ := c_ref24_CheckScripts s.Scripts
  have g2 := h4.2 h.scripts
  subst g2
  have hp := h.papers
  have hl := h.len
  have hsd := h.seeds
  have hsl := h.scripts.1
  have third : k_ref29_Check_3 s 0 = some (q_ref29_Check 0) := by
    refine range_int s.Seeds (fun i r => k_ref29_Check_3 s i = some (q_ref29_Check 0)) ?_ ?_
    · exact t_ref29_Check_3 _ _ (by simp (disch := omega) [brn_neg] <;> rfl)
    · intro i hi r hr ih
      obtain ⟨k, p, q1, q2⟩ := h.seed _ (List.getElem_mem hi)
      have hpk := paperOf_at q1
      have hpl := (h.okPaper hpk).2.2.1
      refine t_ref29_Check_3 _ _ ?_
      by_cases h0 : 0 < i
      · have := asc_iff.2 h.asc i hi h0
        simp (disch := omega) [brn_pos, brn_neg, chk_pos, w64_id, toNat_pred h0, c_ref29_PaperOf s _ (by omega) (by omega), q1, ixR, hpk, c_ref26_Fits _ _ (by omega) q2, ih]
      · simp (disch := omega) [brn_pos, brn_neg, chk_pos, w64_id, c_ref29_PaperOf s _ (by omega) (by omega), q1, ixR, hpk, c_ref26_Fits _ _ (by omega) q2, ih]
  have second : k_ref29_Check_2 s 0 = some (q_ref29_Check 0) := by
    refine range_int s.Scripts (fun i r => k_ref29_Check_2 s i = some (q_ref29_Check 0)) ?_ ?_
    · exact t_ref29_Check_2 _ _ (by simp (disch := omega) [brn_neg, third])
    · intro i hi r hr ih
      obtain ⟨k, p, c, q1, q2, q3⟩ := h.script _ (List.getElem_mem hi)
      have hpk := (paperIx_at q1).1
      obtain ⟨w, hw, hw1, hw2⟩ := c_ref23_Closed p c s.Scripts[i].Answers (h.short _ (List.mem_of_getElem? q2))
      have hw0 : w.2 = 0 := hw1.2 ⟨h.schemes k p c hpk q2, q3⟩
      refine t_ref29_Check_2 _ _ ?_
      simp (disch := omega) [brn_pos, chk_pos, w64_id, c_ref26_Paper _ _ (show s.Papers.length ≤ 1000000 by omega), q1, ixR, hpk, q2, hw, hw0, ih]
  have first : k_ref29_Check_1 s 0 = some (q_ref29_Check 0) := by
    refine range_int s.Papers (fun i r => k_ref29_Check_1 s i = some (q_ref29_Check 0)) ?_ ?_
    · exact t_ref29_Check_1 _ _ (by simp (disch := omega) [brn_neg, second])
    · intro i hi r hr ih
      have hi2 : i < s.Schemes.length := by omega
      have hv := h.schemes i _ _ (List.getElem?_eq_getElem hi) (List.getElem?_eq_getElem hi2)
      refine t_ref29_Check_1 _ _ ?_
      simp (disch := omega) [brn_pos, chk_pos, w64_id, c_ref23_Valid _ _ (h.short _ (List.getElem_mem hi2)), dec_true hv, ih]
  refine e_ref29_Check s ?_
  simp (disch := omega) [c_ref24_Check _ h.short2 h.markers, h3, c_ref27_Check _ h.monitor, hl, brn_neg, first]
end
end Go.Proofs.YtdhibifcofaioaaGreat
