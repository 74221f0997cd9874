/- The statement on verdicts: rises. -/
import Derived.Test.YtkmdeoejdlcjeaaLaws30a
namespace Go.Proofs.Ytkmdeoejdlcjeaa
open Go.Ab

/-- alike, but the second's value may be greater -/
def Rise (g h : GGiven) : Prop := h.Level = g.Level ∧ h.Stamp = g.Stamp ∧ g.Value ≤ h.Value

def RiseL : List GGiven → List GGiven → Prop
  | [], [] => True
  | g :: l, h :: m => Rise g h ∧ RiseL l m
  | _, _ => False

theorem rise_refl (g : GGiven) : Rise g g := ⟨rfl, rfl, Int.le_refl _⟩

theorem riseL_refl : ∀ l : List GGiven, RiseL l l
  | [] => trivial
  | g :: l => ⟨rise_refl g, riseL_refl l⟩

theorem riseL_set : ∀ (l : List GGiven) (i : Nat) (h : GGiven), (∀ hi : i < l.length, Rise l[i] h) → RiseL l (l.set i h)
  | [], _, _, _ => trivial
  | g :: l, 0, h, hr => ⟨hr (by simp), riseL_refl l⟩
  | g :: l, i + 1, h, hr => ⟨rise_refl g, riseL_set l i h (fun hi => hr (by simp; omega))⟩

theorem riseL_length : ∀ {l m : List GGiven}, RiseL l m → m.length = l.length
  | [], [], _ => rfl
  | g :: l, h :: m, hr => by simp [riseL_length hr.2]
  | [], _ :: _, hr => hr.elim
  | _ :: _, [], hr => hr.elim

theorem worth_rise {g h : GGiven} (hr : Rise g h) : worth g ≤ worth h := by
  have := hr.2.2
  unfold worth
  split <;> split <;> omega

theorem sumW_rise : ∀ {l m : List GGiven}, RiseL l m → sumW l ≤ sumW m
  | [], [], _ => Int.le_refl _
  | g :: l, h :: m, hr => by
    rw [sumW_cons, sumW_cons]
    have := worth_rise hr.1
    have := sumW_rise hr.2
    omega
  | [], _ :: _, hr => hr.elim
  | _ :: _, [], hr => hr.elim

theorem decisive_rise {l m : List GGiven} (hr : RiseL l m) : (decisive m).2 = (decisive l).2 ∧ Rise (decisive l).1 (decisive m).1 := by
  have key : ∀ (l m : List GGiven) (b c : GGiven × Bool), RiseL l m → c.2 = b.2 → Rise b.1 c.1 → (m.foldl stepD c).2 = (l.foldl stepD b).2 ∧ Rise (l.foldl stepD b).1 (m.foldl stepD c).1 := by
    intro l
    induction l with
    | nil => intro m b c hr h1 h2; cases m with
      | nil => exact ⟨h1, h2⟩
      | cons _ _ => exact hr.elim
    | cons g l ih =>
      intro m b c hr h1 h2
      cases m with
      | nil => exact hr.elim
      | cons h m =>
        rw [List.foldl_cons, List.foldl_cons]
        obtain ⟨hg, hl⟩ := hr
        refine ih m _ _ hl ?_ ?_
        · unfold stepD
          rw [hg.1, hg.2.1, h1, h2.1, h2.2.1]
          split
          · exact h1
          · split
            · rfl
            · exact h1
        · unfold stepD
          rw [hg.1, hg.2.1, h1, h2.1, h2.2.1]
          split
          · exact h2
          · split
            · exact hg
            · exact h2
  exact key l m _ _ hr rfl (rise_refl _)

theorem mean_rise {l m : List GGiven} (hr : RiseL l m) (hne : l ≠ []) : mean l ≤ mean m := by
  have hs := sumW_rise hr
  have hlen := riseL_length hr
  have hpos : 0 < l.length := List.length_pos_iff.2 hne
  have hn : (0 : Int) < l.length := by omega
  have h0 := sumW_nonneg l
  have h1 := sumW_nonneg m
  unfold mean
  rw [hlen]
  generalize (l.length : Int) = n at *
  have e1 := Int.mul_tdiv_add_tmod (sumW l) n
  have e2 := Int.mul_tdiv_add_tmod (sumW m) n
  have r1 := Int.tmod_nonneg n h0
  have r2 := Int.tmod_lt_of_pos (sumW l) hn
  have r3 := Int.tmod_nonneg n h1
  have r4 := Int.tmod_lt_of_pos (sumW m) hn
  generalize (sumW l).tdiv n = q at *
  generalize (sumW m).tdiv n = q' at *
  generalize (sumW l).tmod n = a at *
  generalize (sumW m).tmod n = a' at *
  have hq : q ≤ q' := by
    apply Int.not_lt.1
    intro hlt
    have := Int.mul_le_mul_of_nonneg_left (show q' + 1 ≤ q by omega) (show 0 ≤ n by omega)
    rw [Int.mul_add] at this
    omega
  by_cases he : q = q'
  · subst he
    split
    · rw [if_pos (by omega)]; exact Int.le_refl _
    · split <;> omega
  · split <;> split <;> omega

theorem rises (r : GMarkRule) {l m : List GGiven} (hr : RiseL l m) (h1 : (decideV r l).State = 3) (h2 : (decideV r m).State = 3) : (decideV r l).Value ≤ (decideV r m).Value := by
  have hd := decisive_rise hr
  have hlen := riseL_length hr
  cases l with
  | nil => cases m with
    | nil => exact Int.le_refl _
    | cons _ _ => exact hr.elim
  | cons g l => cases m with
    | nil => exact hr.elim
    | cons h m =>
      rw [decideV_eq r (g :: l) g (by simp)] at h1 ⊢
      rw [decideV_eq r (h :: m) h (by simp)] at h2 ⊢
      rw [hd.1, hlen] at h2 ⊢
      by_cases hb : (decisive (g :: l)).2 = true
      · rw [if_pos hb, if_pos hb]; exact worth_rise hd.2
      · rw [if_neg hb] at h1 h2 ⊢
        rw [if_neg hb]
        by_cases h3 : (g :: l).length = 1
        · rw [if_pos h3] at h1 h2 ⊢
          rw [if_pos h3]
          by_cases h4 : r.Double = true
          · rw [if_pos h4] at h1; cases h1
          · rw [if_neg h4, if_neg h4]; exact worth_rise hr.1
        · rw [if_neg h3] at h1 h2 ⊢
          rw [if_neg h3]
          split at h1
          · cases h1
          · rename_i q1
            split at h2
            · cases h2
            · rename_i q2
              rw [if_neg q1, if_neg q2]
              exact mean_rise hr (by simp)

theorem law_Rises (t : List Int) (k n : Int) (hk : (Lit.int .u8 k).wf = true) (hn : (Lit.int .u8 n).wf = true) :
    cw f_law30_ArbitrationRises [.sl 1 (List.map dI_i64.enc t), .v (.int .u8 k), .v (.int .u8 n)] [] = some (r_law30_ArbitrationRises.enc true) := by
  have hk' : 0 ≤ k ∧ k ≤ 255 := by
    have := hk
    simp only [Lit.wf, Bool.and_eq_true, decide_eq_true_eq] at this
    exact ⟨this.1, this.2⟩
  have hn' : 0 ≤ n ∧ n ≤ 255 := by
    have := hn
    simp only [Lit.wf, Bool.and_eq_true, decide_eq_true_eq] at this
    exact ⟨this.1, this.2⟩
  refine e_law30_ArbitrationRises t k n ?_
  rw [callD_of (c_Light t), callD_of c_sane]
  by_cases ht : (t.length : Int) ≤ 600
  case neg => rw [decide_eq_false ht]; rfl
  rw [decide_eq_true ht, Bool.not_true, brn_false, callD_of (c_Roll t)]
  obtain ⟨r, d1, h1, hr0, hr1, hd1⟩ := c_Rule ⟨t, 0⟩ ⟨Int.le_refl _, by show t.length ≤ 600; omega⟩
  obtain ⟨l, d2, h2, hl, hd2⟩ := c_few d1 hd1
  rw [callD_of h1, callD_of h2]
  have hlen := hl.1
  show brn (((List.map dGGiven.enc l).length : Int) == 0) _ _ = _
  rw [List.take_length, List.length_map]
  by_cases h0 : l.length = 0
  · rw [show (((l.length : Nat) : Int) == 0) = true by simpa using h0, brn_true]
  rw [show (((l.length : Nat) : Int) == 0) = false by simpa using h0, brn_false]
  have hpos : (0 : Int) < l.length := by omega
  have hw : w64 k = k := w64_id (by omega) (by omega)
  have hm := tmod_lt (a := k) hpos
  have hm0 := Int.tmod_nonneg (l.length : Int) hk'.1
  have hm5 := tmod_lt (a := n) (n := 5) (by omega)
  have hn0 := Int.tmod_nonneg (5 : Int) hn'.1
  have hi : (k.tmod l.length).toNat < l.length := by omega
  rw [hw, chk_pos (by omega), chk_pos (by omega), chk_pos rfl, chk_pos (by omega), chk_pos hm0, chk_pos hm.2, Nat.zero_add, elemD_get (D := dGGiven) (l := l) hi, chk_pos (by omega), chk_pos hm0, chk_pos hm.2, elemD_get (D := dGGiven) (l := l) hi,
    chk_pos (by omega), callD_of (c_Decide r l (by omega) (few_vals hl))]
  have hg := (hl.2.1 _ (List.getElem_mem hi)).2
  have e5 : w64 (n.tmod 5) = n.tmod 5 := w64_id (by omega) (by omega)
  have e6 : w64 (l[(k.tmod l.length).toNat].Value + n.tmod 5) = l[(k.tmod l.length).toNat].Value + n.tmod 5 := w64_id (by omega) (by omega)
  rw [e5, e6, chk_pos (by rw [List.length_set, List.length_map]; exact (by omega : 0 + l.length ≤ l.length)), List.take_of_length_le (by rw [List.length_set, List.length_map]; exact Nat.le_refl l.length), ← List.map_set]
  generalize hx : l[(k.tmod l.length).toNat] = x at *
  generalize hgn : (⟨x.Script, x.Part, x.Marker, x.Level, x.Value + n.tmod 5, ⟨x.Stamp.Time, x.Stamp.Source, x.Stamp.Seq⟩⟩ : GGiven) = y
  have hrise : RiseL l (l.set (k.tmod l.length).toNat y) := riseL_set l _ y (fun h => by
    rw [hx, ← hgn]
    exact ⟨rfl, rfl, by show x.Value ≤ x.Value + n.tmod 5; omega⟩)
  have hv : ∀ g ∈ l.set (k.tmod l.length).toNat y, g.Value ≤ 1099511627776 := by
    intro g hg'
    rcases List.mem_or_eq_of_mem_set hg' with h | h
    · exact few_vals hl g h
    · rw [h, ← hgn]; show x.Value + n.tmod 5 ≤ _; omega
  rw [callD_of (c_Decide r _ (by rw [List.length_set]; omega) hv)]
  by_cases q1 : (decideV r l).State = 3
  · rw [show ((decideV r l).State != 3) = false by simp [q1], brn_false]
    by_cases q2 : (decideV r (l.set (k.tmod l.length).toNat y)).State = 3
    · rw [show ((decideV r (l.set (k.tmod l.length).toNat y)).State != 3) = false by simp [q2], brn_false, brn_dec, if_pos (rises r hrise q1 q2)]
    · rw [show ((decideV r (l.set (k.tmod l.length).toNat y)).State != 3) = true by simpa using q2, brn_true]
  · rw [show ((decideV r l).State != 3) = true by simpa using q1, brn_true]
end Go.Proofs.Ytkmdeoejdlcjeaa
