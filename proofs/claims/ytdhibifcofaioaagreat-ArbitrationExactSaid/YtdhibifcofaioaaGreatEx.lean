/- The reference of arbitration computes the same. -/
import Derived.Test.YtdhibifcofaioaaGreatLTotX
namespace Go.Proofs.YtdhibifcofaioaaGreat
open Go.Ab
set_option linter.unusedSimpArgs false

theorem c_ref30_Check (r : GMarkRule) : cw f_ref30_Check [.agg (nGMarkRule r)] [] = some (q_ref30_Check (chkR r)) := by
  refine e_ref30_Check r ?_
  unfold chkR
  simp only [brn_ite, decide_eq_true_eq]
  split
  · rfl
  · split <;> rfl

theorem cmp_less (a b : GStamp) : decide (0 ≤ cmpS a b) = !lessS a b := by
  unfold cmpS lessS
  simp only [firstNZ, cmpI]
  by_cases h1 : a.Time = b.Time
  · by_cases h2 : a.Source = b.Source
    · by_cases h3 : a.Seq < b.Seq
      · simp [h1, h2, h3]
      · by_cases h4 : b.Seq < a.Seq
        · simp [h1, h2, h3, h4]
        · simp [h1, h2, h3, h4]
    · by_cases h3 : a.Source < b.Source
      · simp [h1, h2, h3]
      · have h4 : b.Source < a.Source := by omega
        simp [h1, h2, h3, h4]
  · by_cases h3 : a.Time < b.Time
    · simp [h1, h3]
    · have h4 : b.Time < a.Time := by omega
      simp [h1, h3, h4]

theorem mean_ref (l : List GGiven) (h0 : l ≠ []) : (2 * sumW l + l.length).tdiv (2 * l.length) = mean l := by
  have hpos : 0 < l.length := List.length_pos_iff.2 h0
  have h2 := sumW_nonneg l
  have h3 : 0 ≤ (sumW l).tmod l.length := Int.tmod_nonneg _ h2
  have h4 : (sumW l).tmod l.length < l.length := Int.tmod_lt_of_pos _ (by omega)
  have h6 := Int.mul_tdiv_add_tmod (sumW l) l.length
  generalize hn : (l.length : Int) = n at *
  generalize hq : (sumW l).tdiv n = q at *
  generalize hr : (sumW l).tmod n = t at *
  have key : ∀ e : Int, 0 ≤ e → e < 2 * n → 2 * sumW l + n = 2 * n * (q + (if n ≤ 2 * t then 1 else 0)) + e → (2 * sumW l + n).tdiv (2 * n) = q + (if n ≤ 2 * t then 1 else 0) := by
    intro e he0 he1 he
    rw [Int.tdiv_eq_ediv_of_nonneg (by omega), he, Int.mul_add_ediv_left _ _ (by omega), Int.ediv_eq_zero_of_lt he0 he1, Int.add_zero]
  have hm : mean l = q + (if n ≤ 2 * t then 1 else 0) := by
    unfold mean
    rw [hn, hq, hr]
    split <;> omega
  rw [hm]
  split at key
  · rename_i hc
    rw [if_pos hc]
    refine key (2 * t - n) (by omega) (by omega) ?_
    rw [Int.mul_add, Int.mul_assoc, ← h6]
    omega
  · rename_i hc
    rw [if_neg hc]
    refine key (2 * t + n) (by omega) (by omega) ?_
    rw [Int.add_zero, Int.mul_assoc, ← h6]
    omega

theorem mean_one (g : GGiven) : mean [g] = worth g := by
  have h := worth_nonneg g
  have h1 : sumW [g] = worth g := by rw [sumW_cons]; simp [sumW]
  unfold mean
  rw [h1]
  simp only [List.length_cons, List.length_nil]
  have h2 : (worth g).tmod (((0 + 1 : Nat) : Nat) : Int) = 0 := by simp
  have h3 : (worth g).tdiv (((0 + 1 : Nat) : Nat) : Int) = worth g := by simp
  rw [h2, h3]
  simp

theorem c_ref30_Decide (r : GMarkRule) (l : List GGiven) (hl : l.length ≤ 100000) (hv : ∀ g ∈ l, g.Value ≤ 1099511627776) :
    cw f_ref30_Decide [.agg (nGMarkRule r), .sl 8 (List.map nGGiven l)] [] = some (q_ref30_Decide (decideV r l)) := by
  have hw : ∀ g ∈ l, worth g ≤ 1099511627776 := fun g hg => by have := hv g hg; unfold worth; split <;> omega
  have hs : sumW l ≤ 109951162777600000 := by
    have h1 := sumW_le l _ hw
    have h2 : (l.length : Int) * 1099511627776 ≤ 100000 * 1099511627776 := Int.mul_le_mul_of_nonneg_right (by omega) (by omega)
    omega
  have hs0 := sumW_nonneg l
  refine e_ref30_Decide r l ?_
  have second : (decisive l).2 = false → ∀ g, l[0]? = some g → (l.length = 1 → r.Double = false) → k_ref30_Decide_2 r l 0 (worth g) 0 0 = some (q_ref30_Decide (decideV r l)) := by
    intro hd g hg h1
    have hlpos : 0 < l.length := (List.getElem?_eq_some_iff.1 hg).1
    have hne : l ≠ [] := List.length_pos_iff.1 hlpos
    have hgm := List.mem_of_getElem? hg
    have hmean := mean_ref l hne
    have hmb := mean_bd l hne _ hw
    have q1 := minW_bd l (worth g) (worth_nonneg g)
    have q2 := maxW_bd l _ hw 0 (by omega)
    have hdv : decideV r l = if l.length = 1 then ⟨3, mean l⟩ else if r.Tolerance < maxW l 0 - minW l (worth g) then ⟨2, 0⟩ else ⟨3, mean l⟩ := by
      unfold decideV
      rw [if_neg (by simp [hd])]
      match l, hg, h1 with
      | [], hg, _ => simp at hg
      | [x], hg, h1 =>
        dsimp only
        rw [if_neg (by simp [h1 rfl]), mean_one]
        simp
      | x :: y :: t, hg, _ =>
        simp only [List.getElem?_cons_zero, Option.some.injEq] at hg
        subst hg
        have hm : maxW (x :: y :: t) 0 = maxW (x :: y :: t) (worth x) := by
          have := worth_nonneg x
          simp only [maxW, List.foldl_cons]
          congr 1
          split <;> split <;> omega
        rw [hm]
        simp
    refine range_int l (fun i s => ∀ (q a b : Int), 0 ≤ q → q + sumW s = sumW l → minW s a = minW l (worth g) → maxW s b = maxW l 0 → k_ref30_Decide_2 r l q a b i = some (q_ref30_Decide (decideV r l))) ?_ ?_ 0 (worth g) 0 (by omega) (by simp) rfl rfl
    · intro q a b hq hqs ha hb
      have hqs' : q = sumW l := by simpa [sumW] using hqs
      have ha' : a = minW l (worth g) := ha
      have hb' : b = maxW l 0 := hb
      have hwg := hw g hgm
      refine t_ref30_Decide_2 _ _ _ _ _ _ ?_
      simp (disch := omega) only [List.length_map, brn_neg, w64_id, hqs', hmean, chk_pos, ha', hb']
      rw [hdv]
      by_cases h2 : l.length = 1
      · simp (disch := omega) only [brn_neg, if_pos h2]
        rfl
      · rw [if_neg h2]
        simp (disch := omega) only [brn_pos]
        simp only [brn_ite, decide_eq_true_eq]
        split <;> rfl
    · intro i hi s _ ih q a b hq hqs ha hb
      have hwi := hw _ (List.getElem_mem hi)
      have hwi0 := worth_nonneg l[i]
      have hss := sumW_nonneg s
      rw [sumW_cons] at hqs
      have hwo : (if 0 > l[i].Value then 0 else l[i].Value) = worth l[i] := by unfold worth; rfl
      refine t_ref30_Decide_2 _ _ _ _ _ _ ?_
      simp (disch := omega) only [List.length_map, brn_pos, chk_pos, Int.toNat_natCast, elemD_GGiven, List.getElem?_eq_getElem hi, Option.bind_some, hwo, w64_id]
      exact ih _ _ _ (by omega) (by omega) ha hb
  have first := range_int l (fun i s => ∀ (b : GGiven × Bool) (k : Int), s.foldl stepD b = decisive l → (b.2 = false → k = -1) → (b.2 = true → 0 ≤ k ∧ l[k.toNat]? = some b.1) → k_ref30_Decide_1 r l k i = some (q_ref30_Decide (decideV r l))) ?_ ?_ (⟨0, 0, 0, 0, 0, ⟨0, 0, 0⟩⟩, false) (-1) rfl (by simp) (by simp)
  · exact first
  · intro b k hb hk0 hk1
    have hb' : b = decisive l := hb
    subst hb'
    refine t_ref30_Decide_1 _ _ _ _ ?_
    cases hd : (decisive l).2 with
    | true =>
      obtain ⟨h0, hkl⟩ := hk1 hd
      simp (disch := omega) only [List.length_map, brn_neg, brn_pos, chk_pos, elemD_GGiven, hkl, Option.bind_some]
      rw [show decideV r l = ⟨3, worth (decisive l).1⟩ by unfold decideV; rw [if_pos hd]]
      rfl
    | false =>
      have hk := hk0 hd
      subst hk
      simp (disch := omega) only [List.length_map, brn_neg]
      by_cases hz : l.length = 0
      · have : l = [] := List.eq_nil_of_length_eq_zero hz
        subst this
        rfl
      · have hlt : 0 < l.length := by omega
        have hz' : ((l.length : Int) == 0) = false := by simp only [beq_eq_false_iff_ne, ne_eq]; omega
        have hwo : (if (0 : Int) > (l[0]'hlt).Value then (0 : Int) else (l[0]'hlt).Value) = worth (l[0]'hlt) := by unfold worth; rfl
        simp (disch := omega) only [hz', brn_false, chk_pos, elemD_GGiven, show l[Int.toNat 0]? = some l[0] from List.getElem?_eq_getElem hlt, Option.bind_some, hwo]
        by_cases h1 : l.length = 1
        · simp only [show ((l.length : Int) == 1) = true by simp [h1], brn_true]
          cases hdb : r.Double with
          | true =>
            simp only [brn_true]
            match l, h1 with
            | [x], _ =>
              unfold decideV
              rw [if_neg (by simp [hd])]
              dsimp only
              rw [if_pos hdb]
              rfl
          | false =>
            simp only [brn_false]
            exact second hd _ (List.getElem?_eq_getElem hlt) (fun _ => hdb)
        · simp only [show ((l.length : Int) == 1) = false by simp only [beq_eq_false_iff_ne, ne_eq]; omega, brn_false]
          exact second hd _ (List.getElem?_eq_getElem hlt) (fun h => absurd h h1)
  · intro i hi s _ ih b k hb hk0 hk1
    rw [List.foldl_cons] at hb
    have keep : stepD b l[i] = b → k_ref30_Decide_1 r l k ((i : Int) + 1) = some (q_ref30_Decide (decideV r l)) := fun h => ih b k (by rw [h] at hb; exact hb) hk0 hk1
    have take : stepD b l[i] = (l[i], true) → k_ref30_Decide_1 r l i ((i : Int) + 1) = some (q_ref30_Decide (decideV r l)) := fun h => ih (l[i], true) i (by rw [h] at hb; exact hb) (by simp) (fun _ => ⟨by omega, by simp [hi]⟩)
    refine t_ref30_Decide_1 _ _ _ _ ?_
    simp (disch := omega) only [List.length_map, brn_pos, chk_pos, Int.toNat_natCast, elemD_GGiven, List.getElem?_eq_getElem hi, Option.bind_some, w64_id]
    by_cases h2 : 2 ≤ l[i].Level
    · simp (disch := omega) only [brn_pos]
      cases hb2 : b.2 with
      | false =>
        have hk := hk0 hb2
        simp (disch := omega) only [brn_pos]
        exact take (by unfold stepD; rw [if_neg (by omega), if_pos (Or.inl hb2)])
      | true =>
        obtain ⟨h0, hkl⟩ := hk1 hb2
        simp (disch := omega) only [brn_neg, chk_pos, elemD_GGiven, hkl, Option.bind_some, List.getElem?_eq_getElem hi]
        by_cases h3 : b.1.Level < l[i].Level
        · simp (disch := omega) only [brn_pos]
          exact take (by unfold stepD; rw [if_neg (by omega), if_pos (Or.inr (Or.inl h3))])
        · simp (disch := omega) only [brn_neg]
          by_cases h4 : l[i].Level = b.1.Level
          · simp only [show (l[i].Level == b.1.Level) = true by simpa using h4, brn_true, c_ref28_Less, callD_ref28_Less]
            have hc := cmp_less l[i].Stamp b.1.Stamp
            cases hls : lessS l[i].Stamp b.1.Stamp with
            | false =>
              simp only [Bool.not_false, brn_true]
              rw [hls] at hc
              exact take (by unfold stepD; rw [if_neg (by omega), if_pos (Or.inr (Or.inr ⟨h4, by simpa using hc⟩))])
            | true =>
              simp only [Bool.not_true, brn_false]
              rw [hls] at hc
              have hc' : ¬ 0 ≤ cmpS l[i].Stamp b.1.Stamp := by simpa using hc
              exact keep (by unfold stepD; rw [if_neg (by omega), if_neg (by rintro (h | h | h); · simp [hb2] at h
                                                                             · exact h3 h
                                                                             · exact hc' h.2)])
          · simp only [show (l[i].Level == b.1.Level) = false by simpa using h4, brn_false]
            exact keep (by unfold stepD; rw [if_neg (by omega), if_neg (by rintro (h | h | h); · simp [hb2] at h
                                                                           · exact h3 h
                                                                           · exact h4 h.1)])
    · simp (disch := omega) only [brn_neg]
      exact keep (by unfold stepD; rw [if_pos (by omega)])
end Go.Proofs.YtdhibifcofaioaaGreat

namespace Go.Proofs.YtdhibifcofaioaaGreat
open Go.Ab
set_option linter.unusedSimpArgs false

theorem c_ref29_Counting (m : GMarking) (n p : Int) (hl : m.Given.length ≤ 1000000) : cw f_ref29_Counting [.agg (nGMarking m), I n, I p] [] = some (q_ref29_Counting (countG m n p)) := by
  refine e_ref29_Counting m n p ?_
  refine range_int m.Given (fun i r => ∀ out : List GGiven, (out.length : Int) ≤ i → k_ref29_Counting_1 m n p (List.map nGGiven out) i = some (q_ref29_Counting (out ++ r.filter fun g => g.Script == n && g.Part == p))) ?_ ?_ [] (by simp)
  · intro out _
    refine t_ref29_Counting_1 _ _ _ _ _ ?_
    simp (disch := omega) only [List.length_map, brn_neg, chk_true, List.filter_nil, List.append_nil]
    rfl
  · intro i hi r _ ih out ho
    refine t_ref29_Counting_1 _ _ _ _ _ ?_
    simp (disch := omega) only [List.length_map, brn_pos, chk_pos, Int.toNat_natCast, elemD_GGiven, List.getElem?_eq_getElem hi, Option.bind_some, chk_true, map_snoc nGGiven, w64_id, List.filter_cons]
    cases m.Given[i].Script == n with
    | false =>
      simp only [brn_false, Bool.false_and, Bool.false_eq_true, if_false]
      exact ih out (by omega)
    | true =>
      simp only [brn_true, Bool.true_and]
      cases m.Given[i].Part == p with
      | false =>
        simp only [brn_false, Bool.false_eq_true, if_false]
        exact ih out (by omega)
      | true =>
        simp only [brn_true, if_true]
        have := ih (out ++ [m.Given[i]]) (by simp; omega)
        rw [List.append_assoc, List.singleton_append] at this
        exact this

noncomputable def verdR (r : GMarkRule) (s : GSetup) (m : GMarking) (n : Int) : List GVerdict × Int := if chkR r = 0 then match scriptOf s.Scripts n with | some x => (verdS r s m x, 0) | none => ([], 4) else ([], 1)

theorem c_ref30_Verdicts (r : GMarkRule) (s : GSetup) (hs : OkSetup s) (m : GMarking) (hg : m.Given.length ≤ 100000) (hm : SmallM m) (n : Int) :
    cw f_ref30_Verdicts [.agg (nGMarkRule r), .agg (nGSetup s), .agg (nGMarking m), I n] [] = some (q_ref30_Verdicts (verdR r s m n)) := by
  have hx60 := hs.scripts.1
  have hp32 := hs.papers
  have hsd := hs.seeds
  refine e_ref30_Verdicts r s m n ?_
  unfold verdR
  simp only [c_ref29_Check hs, callD_ref29_Check, bne_self_eq_false, brn_false, c_ref30_Check, callD_ref30_Check]
  by_cases hr : chkR r = 0
  case neg =>
    rw [if_neg hr]
    simp only [show (chkR r != 0) = true by simpa using hr, brn_true]
    rfl
  rw [if_pos hr]
  simp (disch := omega) only [hr, bne_self_eq_false, brn_false, c_ref24_Script s.Scripts n (show s.Scripts.length ≤ 1000000 by omega), callD_ref24_Script]
  cases hso : scriptOf s.Scripts n with
  | none =>
    simp only [scR, Bool.not_false, brn_true]
    rfl
  | some x =>
    obtain ⟨hx, hxn⟩ := scriptOf_at hso
    subst hxn
    obtain ⟨k, p, c, hk, hc, ha⟩ := hs.script x hx
    have hpk := (paperIx_at hk).1
    have hok := hs.schemes k p c hpk hc
    have hparts := hok.1.2.2.1
    have hwl := hok.2.2.1
    have hpo : paperOf s x.Number = some (k, p) := by unfold paperOf; rw [hso]; exact hk
    obtain ⟨rc, erc, hrc, hrc2⟩ := c_ref23_Closed p c x.Answers (hs.short c (List.mem_of_getElem? hc))
    have hz := hrc.2 ⟨hok, ha⟩
    have hcl := hrc2 hz
    obtain ⟨rc1, rc2⟩ := rc
    simp only at hz hcl
    subst hz
    subst hcl
    have hvS : verdS r s m x = verdL r m x p c (seedOf s.Seeds x.Number) := by
      unfold verdS
      rw [hk]
      dsimp only
      rw [hc]
      rfl
    dsimp only
    rw [hvS]
    simp (disch := omega) only [scR, Bool.not_true, brn_false, c_ref29_PaperOf s x.Number (show s.Scripts.length ≤ 1000000 by omega) (show s.Papers.length ≤ 1000000 by omega), hpo, ixR, callD_ref29_PaperOf, chk_pos, Int.toNat_natCast, elemD_GPaper, hpk, Option.bind_some, elemD_GScheme, hc, erc, callD_ref23_Closed,
      c_ref26_Definitive s.Seeds x.Number (show s.Seeds.length ≤ 1000000 by omega) (seed_short hs), callD_ref26_Definitive, Option.getD_some]
    have loop := range_int p.Parts (fun i _ => k_ref30_Verdicts_1 r s m x.Number ((k : Int), true) (closedL p c x.Answers, 0) (seedR (seedOf s.Seeds x.Number)) (List.map nGVerdict ((List.range i.toNat).map (verdAt r m x p c (seedOf s.Seeds x.Number)))) i = some (q_ref30_Verdicts (verdL r m x p c (seedOf s.Seeds x.Number), 0))) ?_ ?_
    · exact loop
    · refine t_ref30_Verdicts_1 _ _ _ _ _ _ _ _ _ ?_
      simp (disch := omega) only [chk_pos, Int.toNat_natCast, elemD_GPaper, hpk, Option.bind_some, List.length_map, List.length_range, brn_neg, Nat.zero_add, Nat.le_refl, chk_true]
      rw [List.take_of_length_le (by simp)]
      rfl
    · intro i hi _ _ ih
      have hiw : i < c.Withdrawn.length := by omega
      have hix : ((i : Int) + 1).toNat = i + 1 := by omega
      rw [hix, List.range_succ, List.map_append, List.map_cons, List.map_nil, ← map_snoc nGVerdict] at ih
      have hcl : i < (closedL p c x.Answers).length := by simp [closedL]; omega
      have hcv : (closedL p c x.Answers)[i] = closedAt p c x.Answers i := by simp [closedL]
      have hkd := kind2 (hok.1.2.2.2.1 _ (List.getElem_mem hi))
      have hva : verdAt r m x p c (seedOf s.Seeds x.Number) i = if p.Parts[i].Kind = 2 ∨ c.Withdrawn[i] ≠ 0 then ⟨3, if 0 > closedAt p c x.Answers i then 0 else closedAt p c x.Answers i⟩ else match seedOf s.Seeds x.Number with
            | some (_, sd) => ⟨3, sd.Marks.getD i 0⟩
            | none => decideV r (countG m x.Number i) := by
          unfold verdAt
          rw [List.getElem?_eq_getElem hi, List.getElem?_eq_getElem hiw]
          rfl
      have hlr : (List.map (verdAt r m x p c (seedOf s.Seeds x.Number)) (List.range i)).length = i := by simp
      have m1015 : (p.Parts[i].Kind = 2 ∨ c.Withdrawn[i] ≠ 0) → k_ref30_Verdicts_1015 r s m x.Number ((k : Int), true) (closedL p c x.Answers, 0) (seedR (seedOf s.Seeds x.Number)) (List.map nGVerdict ((List.range i).map (verdAt r m x p c (seedOf s.Seeds x.Number)))) i = some (q_ref30_Verdicts (verdL r m x p c (seedOf s.Seeds x.Number), 0)) := by
        intro hor
        refine t_ref30_Verdicts_1015 _ _ _ _ _ _ _ _ _ ?_
        simp (disch := omega) only [List.length_map, hlr, Int.toNat_natCast, chk_pos, chk_true, elemD_I_i64, List.getElem?_eq_getElem hcl, Option.bind_some, hcv, w64_id]
        rw [hva, if_pos hor] at ih
        exact ih
      refine t_ref30_Verdicts_1 _ _ _ _ _ _ _ _ _ ?_
      simp (disch := omega) only [chk_pos, Int.toNat_natCast, elemD_GPaper, hpk, Option.bind_some, List.length_map, brn_pos, c_ref29_Open, callD_ref29_Open, elemD_GScheme, hc, elemD_I_i64, List.getElem?_eq_getElem hiw]
      by_cases h1 : p.Parts[i].Kind = 2
      · rw [dec_false (show ¬ OpenP p (i : Int) by rintro ⟨_, y, h2, h3⟩; rw [Int.toNat_natCast, List.getElem?_eq_getElem hi] at h2; cases h2; omega)]
        simp only [Bool.not_false, brn_true]
        exact m1015 (Or.inl h1)
      · rw [dec_true (show OpenP p (i : Int) from ⟨by omega, _, by rw [Int.toNat_natCast]; exact List.getElem?_eq_getElem hi, by omega⟩)]
        simp only [Bool.not_true, brn_false]
        by_cases h2 : c.Withdrawn[i] = 0
        · simp only [show (c.Withdrawn[i] != 0) = false by simpa using h2, brn_false]
          rw [if_neg (by rintro (h | h) <;> contradiction)] at hva
          cases ho : seedOf s.Seeds x.Number with
          | some q =>
            obtain ⟨q, sd⟩ := q
            obtain ⟨k', p', hpo', hmk⟩ := seed_judge hs ho
            rw [hpo] at hpo'
            cases hpo'
            have him : i < sd.Marks.length := by have := hmk.1; omega
            rw [ho] at hva ih
            have hgd : sd.Marks.getD i 0 = sd.Marks[i] := by simp [him]
            dsimp only at hva
            rw [hva, hgd] at ih
            simp (disch := omega) only [seedR, brn_true, elemD_I_i64, List.getElem?_eq_getElem him, Option.bind_some, List.length_map, List.length_range, chk_pos, chk_true, w64_id]
            simp only [seedR] at ih
            exact ih
          | none =>
            rw [ho] at hva ih
            dsimp only at hva
            rw [hva] at ih
            have hct := hm.count x.Number i
            have hcl2 : (countG m x.Number i).length ≤ 100000 := Nat.le_trans (List.length_filter_le _ _) hg
            simp (disch := omega) only [seedR, brn_false, c_ref29_Counting m x.Number i hm.1, callD_ref29_Counting, List.length_map, Nat.zero_add, Nat.le_refl, chk_true]
            rw [List.take_of_length_le (by simp)]
            simp (disch := omega) only [c_ref30_Decide r _ hcl2 hct.2, callD_ref30_Decide, List.length_map, List.length_range, chk_pos, chk_true, w64_id]
            simp only [seedR] at ih
            exact ih
        · simp only [show (c.Withdrawn[i] != 0) = true by simpa using h2, brn_true]
          exact m1015 (Or.inr h2)

theorem c_ref30_Open (r : GMarkRule) (s : GSetup) (hs : OkSetup s) (m : GMarking) (hg : m.Given.length ≤ 100000) (hm : SmallM m) :
    cw f_ref30_Open [.agg (nGMarkRule r), .agg (nGSetup s), .agg (nGMarking m)] [] = some (q_ref30_Open (if chkR r = 0 then (openL r s m s.Scripts, 0) else ([], 1))) := by
  have hx60 := hs.scripts.1
  refine e_ref30_Open r s m ?_
  simp only [c_ref29_Check hs, callD_ref29_Check, bne_self_eq_false, brn_false, c_ref30_Check, callD_ref30_Check]
  by_cases hr : chkR r = 0
  · rw [if_pos hr]
    simp only [hr, bne_self_eq_false, brn_false]
    refine range_int s.Scripts (fun i rest => ∀ out : List (Int × Int), (out.length : Int) ≤ 24 * i → k_ref30_Open_1 r s m (List.map nA2_I_i64 out) i = some (q_ref30_Open (out ++ openL r s m rest, 0))) ?_ ?_ [] (by simp)
    · intro out _
      refine t_ref30_Open_1 _ _ _ _ _ ?_
      simp (disch := omega) only [List.length_map, brn_neg, Nat.zero_add, Nat.le_refl, chk_true]
      rw [List.take_of_length_le (by simp)]
      simp only [openL, List.flatMap_nil, List.append_nil]
      rfl
    · intro i hi rest _ ih out ho
      have hv : verdR r s m s.Scripts[i].Number = (verdS r s m s.Scripts[i], 0) := by
        unfold verdR
        rw [if_pos hr, scriptOf_mem hs.scripts.2.2 (List.getElem_mem hi)]
      refine t_ref30_Open_1 _ _ _ _ _ ?_
      simp (disch := omega) only [List.length_map, brn_pos, chk_pos, Int.toNat_natCast, elemD_GScript, List.getElem?_eq_getElem hi, Option.bind_some, c_ref30_Verdicts r s hs m hg hm, hv, callD_ref30_Verdicts]
      have hvl := verdS_len (r := r) hs (m := m) (x := s.Scripts[i])
      have inner := range_int (verdS r s m s.Scripts[i]) (fun j rest2 => ∀ out : List (Int × Int), (out.length : Int) ≤ 24 * i + j → k_ref30_Open_2 r s m i (verdS r s m s.Scripts[i], 0) (List.map nA2_I_i64 out) j = some (q_ref30_Open (out ++ (openOf s.Scripts[i].Number rest2 j.toNat ++ openL r s m rest), 0))) ?_ ?_ out (by omega)
      · rw [inner]
        rfl
      · intro out ho
        refine t_ref30_Open_2 _ _ _ _ _ _ _ ?_
        simp (disch := omega) only [List.length_map, brn_neg, w64_id]
        rw [ih out (by omega)]
        rfl
      · intro j hj rest2 _ ih2 out ho
        have hjx : ((j : Int) + 1).toNat = j + 1 := by omega
        rw [hjx] at ih2
        refine t_ref30_Open_2 _ _ _ _ _ _ _ ?_
        simp (disch := omega) only [List.length_map, brn_pos, chk_pos, Int.toNat_natCast, elemD_GVerdict, List.getElem?_eq_getElem hj, Option.bind_some, elemD_GScript, List.getElem?_eq_getElem hi, chk_true, w64_id, openOf]
        by_cases h3 : (verdS r s m s.Scripts[i])[j].State = 3
        · simp only [show ((verdS r s m s.Scripts[i])[j].State != 3) = false by simpa using h3, brn_false]
          rw [if_pos h3]
          exact ih2 out (by omega)
        · simp only [show ((verdS r s m s.Scripts[i])[j].State != 3) = true by simpa using h3, brn_true]
          rw [if_neg h3]
          have := ih2 (out ++ [(s.Scripts[i].Number, (j : Int))]) (by simp; omega)
          rw [← map_snoc nA2_I_i64, List.append_assoc, List.singleton_append] at this
          exact this
  · rw [if_neg hr]
    simp only [show (chkR r != 0) = true by simpa using hr, brn_true]
    rfl

theorem c_ref23_Marked (p : GPaper) (c : GScheme) (l : List Int) (hs : Short c) (hok : OkScheme p c) (hl : l.length = p.Parts.length) (hm : MarkedP p c l) :
    cw f_ref23_Marked [.agg (nGPaper p), .agg (nGScheme c), .sl 1 (List.map nI_i64 l)] [] = some (q_ref23_Marked true) := by
  have hpl := hok.1.2.2.1
  have hwl := hok.2.2.1
  refine e_ref23_Marked p c l ?_
  simp only [c_ref23_Valid p c hs, callD_ref23_Valid, dec_true hok, Bool.not_true, brn_false, List.length_map, hl, bne_self_eq_false]
  refine range_int l (fun i _ => k_ref23_Marked_1 p c l i = some (q_ref23_Marked true)) ?_ ?_
  · exact t_ref23_Marked_1 _ _ _ _ (by simp (disch := omega) only [List.length_map, brn_neg]; rfl)
  · intro i hi _ _ ih
    have hiw : i < c.Withdrawn.length := by omega
    have hip : i < p.Parts.length := by omega
    refine t_ref23_Marked_1 _ _ _ _ ?_
    simp (disch := omega) only [List.length_map, brn_pos, chk_pos, Int.toNat_natCast, elemD_I_i64, List.getElem?_eq_getElem hi, List.getElem?_eq_getElem hiw, Option.bind_some, c_ref23_Permitted p c i _ l[i] hs hok (List.getElem?_eq_getElem hip), callD_ref23_Permitted, w64_id, ih]
    by_cases hw : c.Withdrawn[i] = 0
    · simp only [show (c.Withdrawn[i] == 0) = true by simpa using hw, brn_true, dec_true (hm i _ _ _ (List.getElem?_eq_getElem hip) (List.getElem?_eq_getElem hiw) (List.getElem?_eq_getElem hi) hw), Bool.not_true, brn_false]
    · simp only [show (c.Withdrawn[i] == 0) = false by simpa using hw, brn_false]

theorem c_ref23_Total (p : GPaper) (c : GScheme) (l : List Int) (hs : Short c) (hok : OkScheme p c) (hl : l.length = p.Parts.length) (hm : MarkedP p c l) :
    cw f_ref23_Total [.agg (nGPaper p), .agg (nGScheme c), .sl 1 (List.map nI_i64 l)] [] = some (q_ref23_Total (sumT p.Parts c.Withdrawn l, 0)) := by
  have hpl := hok.1.2.2.1
  have hwl := hok.2.2.1
  refine e_ref23_Total p c l ?_
  simp only [c_ref23_Valid p c hs, callD_ref23_Valid, dec_true hok, Bool.not_true, brn_false, List.length_map, hl, bne_self_eq_false, c_ref23_Marked p c l hs hok hl hm, callD_ref23_Marked]
  have loop := range_int l (fun i r => ∀ a : Int, 0 ≤ a → a ≤ 40 * i → k_ref23_Total_1 p c l a i = some (q_ref23_Total (a + sumT (p.Parts.drop i.toNat) (c.Withdrawn.drop i.toNat) r, 0))) ?_ ?_ 0 (by omega) (by omega)
  · rw [loop]
    simp
  · intro a _ _
    refine t_ref23_Total_1 _ _ _ _ _ ?_
    have : p.Parts.drop ((l.length : Int)).toNat = [] := List.drop_eq_nil_of_le (by omega)
    simp (disch := omega) only [List.length_map, brn_neg, this, sumT, Int.add_zero]
    rfl
  · intro i hi r _ ih a h0 h1
    have hiw : i < c.Withdrawn.length := by omega
    have hip : i < p.Parts.length := by omega
    have hix : ((i : Int) + 1).toNat = i + 1 := by omega
    rw [hix] at ih
    have hxo := hok.1.2.2.2.1 _ (List.getElem_mem hip)
    have hmx := hxo.1
    have hw := (hok.2.2.2 i _ (c.Keys[i]'(by have := hok.2.1; omega)) _ (List.getElem?_eq_getElem hip) (List.getElem?_eq_getElem _) (List.getElem?_eq_getElem hiw)).2
    have hval : c.Withdrawn[i] = 0 → l[i] ≤ 40 := by
      intro h
      have := hm i _ _ _ (List.getElem?_eq_getElem hip) (List.getElem?_eq_getElem hiw) (List.getElem?_eq_getElem hi) h
      unfold PermP at this
      split at this <;> omega
    refine t_ref23_Total_1 _ _ _ _ _ ?_
    simp (disch := omega) only [List.length_map, brn_pos, chk_pos, Int.toNat_natCast, elemD_I_i64, List.getElem?_eq_getElem hi, List.getElem?_eq_getElem hiw, elemD_GPart, List.getElem?_eq_getElem hip, Option.bind_some]
    rw [List.drop_eq_getElem_cons hip, List.drop_eq_getElem_cons hiw, sumT, ← Int.add_assoc]
    unfold termT
    rw [w64_id (n := (i : Int) + 1) (by omega) (by omega)]
    by_cases h0' : c.Withdrawn[i] = 0
    · have := hval h0'
      simp only [show (c.Withdrawn[i] == 0) = true by simpa using h0', brn_true]
      rw [if_neg (show ¬ c.Withdrawn[i] = 1 by omega), if_neg (show ¬ c.Withdrawn[i] = 2 by omega)]
      have hu : 0 ≤ (if (0 : Int) > l[i] then (0 : Int) else l[i]) ∧ (if (0 : Int) > l[i] then (0 : Int) else l[i]) ≤ 40 := by split <;> omega
      generalize (if (0 : Int) > l[i] then (0 : Int) else l[i]) = u at hu
      rw [w64_id (by omega) (by omega)]
      exact ih _ (by omega) (by omega)
    · simp only [show (c.Withdrawn[i] == 0) = false by simpa using h0', brn_false]
      by_cases h1' : c.Withdrawn[i] = 1
      · simp only [show (c.Withdrawn[i] == 1) = true by simpa using h1', brn_true]
        rw [if_pos h1', w64_id (by omega) (by omega)]
        exact ih _ (by omega) (by omega)
      · simp only [show (c.Withdrawn[i] == 1) = false by simpa using h1', brn_false]
        rw [if_neg h1', if_pos (by omega), Int.add_zero]
        exact ih _ (by omega) (by omega)

noncomputable def totR (r : GMarkRule) (s : GSetup) (m : GMarking) (n : Int) : Int × Int × Int :=
  if chkR r = 0 then match scriptOf s.Scripts n with
    | some x => if stateL (verdS r s m x) = 3 then (3, (match paperIx s.Papers x with | some (k, p) => sumT p.Parts ((s.Schemes[k]?).getD ⟨[], []⟩).Withdrawn ((verdS r s m x).map (·.Value)) | none => 0), 0) else (stateL (verdS r s m x), 0, 0)
    | none => (0, 0, 4)
  else (0, 0, 1)

theorem marked_all (r : GMarkRule) (s : GSetup) (hs : OkSetup s) (m : GMarking) (hg : ∀ g ∈ m.Given, GivenOk s g) (x : GScript) (hx : x ∈ s.Scripts) (k : Nat) (p : GPaper) (c : GScheme) (hk : paperIx s.Papers x = some (k, p)) (hc : s.Schemes[k]? = some c) :
    MarkedP p c ((verdS r s m x).map (·.Value)) := by
  intro j y w v hy _ hv _
  have hVe : verdS r s m x = (List.range p.Parts.length).map (verdAt r m x p c (seedOf s.Seeds x.Number)) := by
    unfold verdS
    rw [hk]
    dsimp only
    rw [hc]
    rfl
  have := verd_ok r s hs m hg x hx k p c hk hc j y hy
  obtain ⟨hj2, rfl⟩ := List.getElem?_eq_some_iff.1 hv
  have e : (List.map (fun x => x.Value) (verdS r s m x))[j] = (verdAt r m x p c (seedOf s.Seeds x.Number) j).Value := by simp [hVe]
  rw [e]
  exact this.2.2.2

theorem c_TotalG (r : GMarkRule) (s : GSetup) (hs : OkSetup s) (m : GMarking) (hm : SmallM m) (hg : ∀ g ∈ m.Given, GivenOk s g) (n : Int) :
    cw f_arbitration_Total [.agg (nGMarkRule r), .agg (nGSetup s), .agg (nGMarking m), I n] [] = some (q_arbitration_Total (totR r s m n)) := by
  unfold totR
  by_cases hr : chkR r = 0
  · rw [if_pos hr]
    cases hso : scriptOf s.Scripts n with
    | none =>
      refine e_arbitration_Total r s m n ?_
      simp only [c_Verdicts r s hs m hm n, if_pos hr, hso, callD_arbitration_Verdicts, show ((4 : Int) != 0) = true from rfl, brn_true]
      rfl
    | some x =>
      obtain ⟨hx, hxn⟩ := scriptOf_at hso
      subst hxn
      obtain ⟨k, p, c, hk, hc, _⟩ := hs.script x hx
      have := c_Total r s hs m hm hr x hx k p c hk hc (fun _ => marked_all r s hs m hg x hx k p c hk hc)
      rw [this]
      dsimp only
      rw [hk]
      dsimp only
      rw [hc]
      rfl
  · rw [if_neg hr]
    refine e_arbitration_Total r s m n ?_
    simp only [c_Verdicts r s hs m hm n, if_neg hr, callD_arbitration_Verdicts, show ((1 : Int) != 0) = true from rfl, brn_true]
    rfl

theorem c_ref30_Total (r : GMarkRule) (s : GSetup) (hs : OkSetup s) (m : GMarking) (hgl : m.Given.length ≤ 100000) (hm : SmallM m) (hg : ∀ g ∈ m.Given, GivenOk s g) (n : Int) :
    cw f_ref30_Total [.agg (nGMarkRule r), .agg (nGSetup s), .agg (nGMarking m), I n] [] = some (q_ref30_Total (totR r s m n)) := by
  have hx60 := hs.scripts.1
  have hp32 := hs.papers
  unfold totR
  refine e_ref30_Total r s m n ?_
  simp only [c_ref30_Verdicts r s hs m hgl hm n, callD_ref30_Verdicts]
  unfold verdR
  by_cases hr : chkR r = 0
  case neg =>
    rw [if_neg hr, if_neg hr]
    simp only [show ((1 : Int) != 0) = true from rfl, brn_true]
    rfl
  rw [if_pos hr, if_pos hr]
  cases hso : scriptOf s.Scripts n with
  | none =>
    simp only [show ((4 : Int) != 0) = true from rfl, brn_true]
    rfl
  | some x =>
    obtain ⟨hx, hxn⟩ := scriptOf_at hso
    subst hxn
    obtain ⟨k, p, c, hk, hc, _⟩ := hs.script x hx
    have hpk := (paperIx_at hk).1
    have hok := hs.schemes k p c hpk hc
    have hpo : paperOf s x.Number = some (k, p) := by unfold paperOf; rw [hso]; exact hk
    have hmk := marked_all r s hs m hg x hx k p c hk hc
    have hvp := verdS_parts (r := r) (m := m) hk
    have hvl := verdS_len (r := r) hs (m := m) (x := x)
    simp only [bne_self_eq_false, brn_false]
    rw [hk]
    dsimp only
    rw [hc, Option.getD_some]
    generalize hV : verdS r s m x = V at *
    have loop := range_int V (fun i rest => ∀ (out : List Int) (a : Int), (out.length : Int) = i → out ++ rest.map (·.Value) = V.map (·.Value) → rest.foldl (fun s v => if v.State < s then v.State else s) a = stateL V → k_ref30_Total_1 s x.Number (V, 0) (List.map nI_i64 out) a i = some (q_ref30_Total (
        if stateL V = 3 then (3, sumT p.Parts c.Withdrawn (V.map (·.Value)), 0) else (stateL V, 0, 0)))) ?_ ?_ [] 3 (by simp) rfl rfl
    · exact loop
    · intro out a ho hout ha
      have ha' : a = stateL V := ha
      have hout' : out = V.map (·.Value) := by simpa using hout
      subst ha'
      refine t_ref30_Total_1 _ _ _ _ _ _ ?_
      simp (disch := omega) only [List.length_map, brn_neg]
      by_cases h3 : stateL V = 3
      · rw [if_pos h3]
        simp (disch := omega) only [h3, bne_self_eq_false, brn_false, c_ref29_PaperOf s x.Number (show s.Scripts.length ≤ 1000000 by omega) (show s.Papers.length ≤ 1000000 by omega), hpo, ixR, callD_ref29_PaperOf, chk_pos, Int.toNat_natCast, elemD_GPaper, hpk, Option.bind_some, elemD_GScheme, hc, Nat.zero_add, Nat.le_refl, chk_true]
        rw [List.take_of_length_le (by simp)]
        simp only [c_ref23_Total p c out (hs.short c (List.mem_of_getElem? hc)) hok (by omega) (by rw [hout']; exact hmk), callD_ref23_Total]
        rw [hout']
        rfl
      · rw [if_neg h3]
        simp only [show (stateL V != 3) = true by simpa using h3, brn_true]
        rfl
    · intro i hi rest _ ih out a ho hout ha
      refine t_ref30_Total_1 _ _ _ _ _ _ ?_
      simp (disch := omega) only [List.length_map, brn_pos, chk_pos, Int.toNat_natCast, elemD_GVerdict, List.getElem?_eq_getElem hi, Option.bind_some, chk_true, map_snoc nI_i64, w64_id]
      exact ih (out ++ [V[i].Value]) (if V[i].State < a then V[i].State else a) (by simp; omega) (by rw [List.append_assoc, List.singleton_append]; exact hout) ha

theorem c_few (d : GmarkDice) (hd : DOk d) : ∃ (l : List GGiven) (d' : GmarkDice), cw f_law30_few [.loc 1000 2 0 0] (mD d) = some (q_law30_few (l, d')) ∧ l.length ≤ 5 ∧ (∀ g ∈ l, g.Value ≤ 1099511627776) ∧ DOk d' := by
  let Q : AV × Mem → Prop := fun y => ∃ (l : List GGiven) (d' : GmarkDice), y = q_law30_few (l, d') ∧ l.length ≤ 5 ∧ (∀ g ∈ l, g.Value ≤ 1099511627776) ∧ DOk d'
  suffices H : Sat Q (cw f_law30_few [.loc 1000 2 0 0] (mD d)) by
    obtain ⟨y, e, l, d', rfl, h⟩ := H
    exact ⟨l, d', e, h⟩
  obtain ⟨n0, d0, e0, a0, b0, hd0⟩ := c_Next d 5 hd (by omega)
  refine sat_of (fun y => e_law30_few _) ?_
  simp only [e0, callD_mark_Dice_Next]
  have loop : ∀ (i : Nat) (out : List GGiven) (d : GmarkDice), out.length + i ≤ 5 → (∀ g ∈ out, g.Value ≤ 1099511627776) → DOk d → Sat Q (k_law30_few_1 (List.map nGGiven out) d i) := by
    intro i
    induction i with
    | zero =>
      intro out d ho hg hd
      refine sat_of (fun y => t_law30_few_1 _ _ _) ?_
      simp (disch := omega) only [brn_neg, chk_true]
      exact sat_some ⟨out, d, rfl, by omega, hg, hd⟩
    | succ i ih =>
      intro out d ho hg hd
      obtain ⟨v, d1, e1, _, hd1⟩ := c_Pick d [1, 1, 1, 2, 3] hd (by simp) (by simp)
      obtain ⟨n2, d2, e2, a2, b2, hd2⟩ := c_Next d1 8 hd1 (by omega)
      obtain ⟨n3, d3, e3, a3, b3, hd3⟩ := c_Next d2 9 hd2 (by omega)
      have hi1 : ((i + 1 : Nat) : Int) - 1 = i := by omega
      refine sat_of (fun y => t_law30_few_1 _ _ _) ?_
      simp (disch := omega) only [brn_pos, e1, callD_mark_Dice_Pick, e2, e3, callD_mark_Dice_Next, List.length_map, chk_pos, chk_true, map_snoc nGGiven, w64_id, hi1]
      refine ih (out ++ [_]) d3 (by simp; omega) ?_ hd3
      intro g hgm
      rcases List.mem_append.1 hgm with h | h
      · exact hg g h
      · simp only [List.mem_singleton] at h
        subst h
        dsimp only
        omega
  have := loop n0.toNat [] d0 (by simp; omega) (by simp) hd0
  rw [show ((n0.toNat : Nat) : Int) = n0 by omega] at this
  exact this

theorem c_lverdicts (a : List GVerdict) (hl : a.length ≤ 1000000) : cw f_law30_verdicts [.sl 2 (List.map nGVerdict a), .sl 2 (List.map nGVerdict a)] [] = some (q_law30_verdicts true) := by
  refine e_law30_verdicts a a ?_
  simp only [bne_self_eq_false, brn_false]
  refine range_int a (fun i _ => k_law30_verdicts_1 a a i = some (q_law30_verdicts true)) ?_ ?_
  · exact t_law30_verdicts_1 _ _ _ (by simp (disch := omega) only [List.length_map, brn_neg]; rfl)
  · intro i hi _ _ ih
    refine t_law30_verdicts_1 _ _ _ ?_
    simp (disch := omega) only [List.length_map, brn_pos, chk_pos, Int.toNat_natCast, elemD_GVerdict, List.getElem?_eq_getElem hi, Option.bind_some, beq_self_eq_true, Bool.and_self, Bool.not_true, brn_false, w64_id, ih]

theorem law_Exact (t : List Int) (raw : List GGiven) (rule : GMarkRule) (script : Int) :
    cw f_law30_ArbitrationExact [.sl 1 (List.map nI_i64 t), .sl 8 (List.map nGGiven raw), .agg (nGMarkRule rule), I script] [] = some (.v (.bool true), []) := by
  refine e_law30_ArbitrationExact t raw rule script ?_
  simp only [c_Light, callD_mark_Light]
  by_cases hl : (t.length : Int) ≤ 600
  case neg =>
    simp (disch := omega) only [decide_eq_false hl, Bool.not_false, brn_true, c_sane, callD_law30_sane]
  simp only [decide_eq_true hl, Bool.not_true, brn_false, List.length_map]
  by_cases hrl : raw.length ≤ 40
  case neg =>
    simp (disch := omega) only [brn_pos, c_sane, callD_law30_sane]
  simp (disch := omega) only [brn_neg]
  refine range_int raw (fun i rest => (∀ g ∈ rest, g.Value ≤ 1099511627776 ∨ True) → (∀ (j : Nat) (g : GGiven), (j : Int) < i → raw[j]? = some g → g.Value ≤ 1099511627776) → k_law30_ArbitrationExact_1 t raw rule script i = some (.v (.bool true), [])) ?_ ?_ (fun _ _ => Or.inr trivial) (fun j g h => by omega)
  case refine_2 =>
    intro i hi rest _ ih _ hpre
    refine t_law30_ArbitrationExact_1 _ _ _ _ _ ?_
    by_cases hbig : raw[i].Value ≤ 1099511627776
    · simp (disch := omega) only [List.length_map, brn_pos, brn_neg, chk_pos, Int.toNat_natCast, elemD_GGiven, List.getElem?_eq_getElem hi, Option.bind_some, w64_id]
      refine ih (fun _ _ => Or.inr trivial) ?_
      intro j g hj hg
      by_cases h : (j : Int) < i
      · exact hpre j g h hg
      · have : j = i := by omega
        subst this
        rw [List.getElem?_eq_getElem hi] at hg
        cases hg
        exact hbig
    · simp (disch := omega) only [List.length_map, brn_pos, chk_pos, Int.toNat_natCast, elemD_GGiven, List.getElem?_eq_getElem hi, Option.bind_some, c_sane, callD_law30_sane]
  intro _ hpre
  have hraw : ∀ g ∈ raw, g.Value ≤ 1099511627776 := by
    intro g hg
    obtain ⟨j, hj, rfl⟩ := List.mem_iff_getElem.1 hg
    exact hpre j _ (by omega) (List.getElem?_eq_getElem hj)
  have hd0 : DOk ⟨t, 0⟩ := ⟨by simp, by simp; omega⟩
  obtain ⟨s, d1, e1, hD, hd1⟩ := c_Setup ⟨t, 0⟩ hd0
  have hs := hD.ok
  obtain ⟨ev, d2, e2, l2, p2, hd2⟩ := c_Events d1 s 20 hd1 hD (by omega)
  obtain ⟨fu, d3, e3, l3, p3, hd3⟩ := c_Full d2 s 50 hd2 hD
  have hle : (ev ++ fu).length ≤ 2000 := by simp; omega
  have hpe : ∀ e ∈ ev ++ fu, e.Pages.length ≤ 1000000 := by
    intro e he
    rcases List.mem_append.1 he with h | h
    · have := p2 e h; omega
    · have := p3 e h; omega
  obtain ⟨m, e4, g1, g2, g3⟩ := c_ref29_Fold s hs (ev ++ fu) hle hpe
  obtain ⟨r, d4, e5, t1, t2, hd4⟩ := c_Rule d3 hd3
  obtain ⟨v, d5, e6, _, hd5⟩ := c_Pick d4 [-1, 0, 40, 41] hd4 (by simp) (by simp)
  have hm : SmallM m := by
    refine ⟨by omega, fun g hg => ?_⟩
    obtain ⟨e, ⟨x', a1, _, _, k', p', y', a2, a0, a3, _, a4, _⟩, b1, b2, b3⟩ := g2 g hg
    have := ((hs.okPaper (paperIx_at a2).1).2.2.2.1 y' (List.mem_of_getElem? a3)).1
    omega
  have hml : m.Given.length ≤ 100000 := by omega
  have htk : List.take (ev.length + fu.length) (List.map nGMarkEvent ev ++ List.map nGMarkEvent fu) = List.map nGMarkEvent (ev ++ fu) := by
    rw [← List.map_append, List.take_of_length_le (by simp)]
  have htk2 : List.take fu.length (List.map nGMarkEvent fu) = List.map nGMarkEvent fu := List.take_of_length_le (by simp)
  have hx60 := hs.scripts.1
  refine t_law30_ArbitrationExact_1 _ _ _ _ _ ?_
  simp (disch := omega) only [List.length_map, brn_neg, c_Roll, callD_mark_Roll, e1, callD_mark_Dice_Setup, e2, callD_mark_Dice_Events, e3, callD_mark_Dice_Full, Nat.zero_add, Nat.le_refl, chk_true, eq_self, htk2, List.length_append, chk_pos, htk, e4, callD_ref29_Fold, e5, callD_mark_Dice_Rule, e6, callD_mark_Dice_Pick]
  have loop : ∀ (n : Nat) (i : Nat) (d : GmarkDice), i + n = 3 → DOk d → k_law30_ArbitrationExact_2 raw rule script (s, d1) (m, 0) (r, d4) (v, d5) d i = some (.v (.bool true), []) := by
    intro n
    induction n with
    | zero =>
      intro i d hi hd
      refine t_law30_ArbitrationExact_2 _ _ _ _ _ _ _ _ _ ?_
      simp (disch := omega) only [brn_neg, c_sane, callD_law30_sane]
    | succ n ih =>
      intro i d hi hd
      have hL : [nGMarkRule r, nGMarkRule rule, nGMarkRule ⟨false, v⟩] = List.map nGMarkRule [r, rule, ⟨false, v⟩] := rfl
      have hi3 : i < [r, rule, (⟨false, v⟩ : GMarkRule)].length := by simp; omega
      obtain ⟨fw, d6, e7, f1, f2, hd6⟩ := c_few d hd
      refine t_law30_ArbitrationExact_2 _ _ _ _ _ _ _ _ _ ?_
      have hi4 : (i : Int) < ((3 : Nat) : Int) := by omega
      simp (disch := omega) only [brn_pos, chk_pos, hL, Int.toNat_natCast, elemD_GMarkRule, List.getElem?_eq_getElem hi3, Option.bind_some, c_arbitration_Check, callD_arbitration_Check, c_ref30_Check, callD_ref30_Check, bne_self_eq_false, brn_false, e7, callD_law30_few, List.length_map, Nat.zero_add, Nat.le_refl, chk_true]
      generalize [r, rule, (⟨false, v⟩ : GMarkRule)][i] = u
      rw [List.take_of_length_le (by simp)]
      have hop : ∀ x : List (Int × Int) × Int, x = (if chkR u = 0 then (openL u s m s.Scripts, 0) else ([], 1)) → x.1.length ≤ 100000 := by
        intro x hx
        subst hx
        split
        · have := openL_len (r := u) hs (m := m) s.Scripts
          dsimp only
          omega
        · simp
      simp (disch := omega) only [c_Decide u fw (by omega) f2, callD_arbitration_Decide, c_ref30_Decide u fw (by omega) f2, callD_ref30_Decide, beq_self_eq_true, Bool.and_self, Bool.not_true, brn_false, c_Decide u raw (by omega) hraw, c_ref30_Decide u raw (by omega) hraw, c_Open u s hs m hm, callD_arbitration_Open, c_ref30_Open u s hs m hml hm, callD_ref30_Open, bne_self_eq_false]
      generalize hO : (if chkR u = 0 then (openL u s m s.Scripts, (0 : Int)) else ([], 1)) = O at hop
      have hol := hop O rfl
      refine range_int O.1 (fun j _ => k_law30_ArbitrationExact_3 raw rule script (s, d1) (m, 0) (r, d4) (v, d5) i u (fw, d6) O O j = some (.v (.bool true), [])) ?_ ?_
      · obtain ⟨n1, d7, e8, a1, b1, hd7⟩ := c_Next d6 4 hd6 (by omega)
        obtain ⟨n2, d8, e9, a2, b2, hd8⟩ := c_Next d7 4 hd7 (by omega)
        obtain ⟨n3, d9, e10, a3, b3, hd9⟩ := c_Next d8 4 hd8 (by omega)
        refine t_law30_ArbitrationExact_3 _ _ _ _ _ _ _ _ _ _ _ _ _ ?_
        simp (disch := omega) only [List.length_map, brn_neg, e8, e9, e10, callD_mark_Dice_Next]
        have inner : ∀ (q : Nat) (j : Nat), j + q = 4 → k_law30_ArbitrationExact_4 raw rule script (s, d1) (m, 0) (r, d4) (v, d5) i u (n1, d7) (n2, d8) (n3, d9) j = some (.v (.bool true), []) := by
          intro q
          induction q with
          | zero =>
            intro j hj
            refine t_law30_ArbitrationExact_4 _ _ _ _ _ _ _ _ _ _ _ _ _ ?_
            simp (disch := omega) only [brn_neg, w64_id]
            exact ih (i + 1) d9 (by omega) hd9
          | succ q ih2 =>
            intro j hj
            have hj4 : (j : Int) < ((4 : Nat) : Int) := by omega
            have hL2 : [nI_i64 script, nI_i64 (1 + n1), nI_i64 (1 + n2), nI_i64 (10001 + n3)] = List.map nI_i64 [script, 1 + n1, 1 + n2, 10001 + n3] := rfl
            have hjl : j < [script, 1 + n1, 1 + n2, 10001 + n3].length := by simp; omega
            refine t_law30_ArbitrationExact_4 _ _ _ _ _ _ _ _ _ _ _ _ _ ?_
            simp (disch := omega) only [brn_pos, chk_pos, w64_id, hL2, Int.toNat_natCast, elemD_I_i64, List.getElem?_eq_getElem hjl, Option.bind_some]
            generalize [script, 1 + n1, 1 + n2, 10001 + n3][j] = k
            have hV : cw f_arbitration_Verdicts [.agg (nGMarkRule u), .agg (nGSetup s), .agg (nGMarking m), I k] [] = some (q_arbitration_Verdicts (verdR u s m k)) := c_Verdicts u s hs m hm k
            have hvl : (verdR u s m k).1.length ≤ 1000000 := by
              unfold verdR
              split
              · split
                · rename_i x _
                  have := verdS_len (r := u) hs (m := m) (x := x)
                  dsimp only
                  omega
                · simp
              · simp
            simp (disch := omega) only [hV, callD_arbitration_Verdicts, c_ref30_Verdicts u s hs m hml hm k, callD_ref30_Verdicts, c_TotalG u s hs m hm g2 k, callD_arbitration_Total, c_ref30_Total u s hs m hml hm g2 k, callD_ref30_Total, c_lverdicts _ hvl, callD_law30_verdicts, Bool.not_true, brn_false, bne_self_eq_false]
            exact ih2 (j + 1) (by omega)
        exact inner 4 0 (by omega)
      · intro j hj _ _ ih3
        refine t_law30_ArbitrationExact_3 _ _ _ _ _ _ _ _ _ _ _ _ _ ?_
        simp (disch := omega) only [List.length_map, brn_pos, chk_pos, Int.toNat_natCast, elemD_A2_I_i64, List.getElem?_eq_getElem hj, Option.bind_some, beq_self_eq_true, Bool.and_self, Bool.not_true, brn_false, w64_id, ih3]
  exact loop 3 0 d5 (by omega) hd5
end Go.Proofs.YtdhibifcofaioaaGreat
