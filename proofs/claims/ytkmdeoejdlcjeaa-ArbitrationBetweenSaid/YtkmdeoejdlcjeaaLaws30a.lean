/- The statements on verdicts: order, between, rises. -/
import Derived.Test.YtkmdeoejdlcjeaaFew
namespace Go.Proofs.Ytkmdeoejdlcjeaa
open Go.Ab

/-! ## order -/

/-- without the marker -/
def er (g : GGiven) : GGiven := { g with Marker := 0 }

theorem stepD_er (b : GGiven × Bool) (g : GGiven) : stepD (er b.1, b.2) (er g) = (er (stepD b g).1, (stepD b g).2) := by
  unfold stepD
  show (if g.Level < 2 then _ else if b.2 = false ∨ b.1.Level < g.Level ∨ (g.Level = b.1.Level ∧ 0 ≤ cmpS g.Stamp b.1.Stamp) then _ else _) = _
  split
  · rfl
  · split <;> rfl

theorem decisive_er (l : List GGiven) : decisive (l.map er) = (er (decisive l).1, (decisive l).2) := by
  have key : ∀ (l : List GGiven) (b : GGiven × Bool), (l.map er).foldl stepD (er b.1, b.2) = (er (l.foldl stepD b).1, (l.foldl stepD b).2) := by
    intro l
    induction l with
    | nil => intro b; rfl
    | cons g r ih => intro b; rw [List.map_cons, List.foldl_cons, stepD_er, ih, List.foldl_cons]
  exact key l (⟨0, 0, 0, 0, 0, ⟨0, 0, 0⟩⟩, false)

theorem sumW_er (l : List GGiven) : sumW (l.map er) = sumW l := by
  induction l with
  | nil => rfl
  | cons g r ih => rw [List.map_cons, sumW_cons, sumW_cons, ih]; rfl

theorem minW_er (l : List GGiven) (m : Int) : minW (l.map er) m = minW l m := by
  unfold minW; rw [List.foldl_map]; rfl

theorem maxW_er (l : List GGiven) (m : Int) : maxW (l.map er) m = maxW l m := by
  unfold maxW; rw [List.foldl_map]; rfl

theorem decideV_er (r : GMarkRule) (l : List GGiven) : decideV r (l.map er) = decideV r l := by
  cases l with
  | nil => rfl
  | cons x t =>
    rw [decideV_eq r (x :: t) x (by simp), decideV_eq r ((x :: t).map er) (er x) (by simp), decisive_er, minW_er, maxW_er, List.length_map]
    have hm : mean ((x :: t).map er) = mean (x :: t) := by unfold mean; rw [sumW_er, List.length_map]
    rw [hm]
    rfl

theorem minW_same {l m : List GGiven} (h : ∀ g, g ∈ m ↔ g ∈ l) (k : Int) : minW m k = minW l k := by
  have a := minW_spec m k
  have b := minW_spec l k
  have c1 : minW m k ≤ minW l k := by
    rcases b.2.2 with e | ⟨y, hy, e⟩
    · rw [e]; exact a.1
    · rw [e]; exact a.2.1 y ((h y).2 hy)
  have c2 : minW l k ≤ minW m k := by
    rcases a.2.2 with e | ⟨y, hy, e⟩
    · rw [e]; exact b.1
    · rw [e]; exact b.2.1 y ((h y).1 hy)
  omega

theorem maxW_same {l m : List GGiven} (h : ∀ g, g ∈ m ↔ g ∈ l) (k : Int) : maxW m k = maxW l k := by
  have a := maxW_spec m k
  have b := maxW_spec l k
  have c1 : maxW l k ≤ maxW m k := by
    rcases b.2.2 with e | ⟨y, hy, e⟩
    · rw [e]; exact a.1
    · rw [e]; exact a.2.1 y ((h y).2 hy)
  have c2 : maxW m k ≤ maxW l k := by
    rcases a.2.2 with e | ⟨y, hy, e⟩
    · rw [e]; exact b.1
    · rw [e]; exact b.2.1 y ((h y).1 hy)
  omega

theorem decideV_reverse (r : GMarkRule) (m : List GGiven) (h : Falls m) : decideV r m.reverse = decideV r m := by
  cases m with
  | nil => rfl
  | cons x t =>
    generalize hM : x :: t = M at *
    have hx : x ∈ M := by rw [← hM]; simp
    rw [decideV_eq r M x hx, decideV_eq r M.reverse x (by simpa using hx)]
    obtain ⟨d1, d2⟩ := decisive_same (m := M.reverse) h (fun g hg => by simpa using hg) (fun g hg hl => ⟨g, by simpa using hg, hl, geq_refl g⟩)
    rw [d1, List.length_reverse, minW_same (l := M) (m := M.reverse) (by simp), maxW_same (l := M) (m := M.reverse) (by simp)]
    have hm : mean M.reverse = mean M := by unfold mean; rw [sumW_reverse, List.length_reverse]
    rw [hm]
    split
    · rename_i hd; rw [d2 hd]
    · rfl

theorem few_vals {l : List GGiven} (h : FewOk l) : ∀ g ∈ l, g.Value ≤ 1099511627776 := fun g hg => by have := (h.2.1 g hg).2; omega

theorem law_Order (t : List Int) (n : Int) : cw f_law30_ArbitrationOrder [.sl 1 (List.map dI_i64.enc t), .v (.int .u8 n)] [] = some (r_law30_ArbitrationOrder.enc true) := by
  refine e_law30_ArbitrationOrder t n ?_
  rw [callD_of (c_Light t), callD_of c_sane]
  by_cases ht : (t.length : Int) ≤ 600
  case neg => rw [decide_eq_false ht]; rfl
  rw [decide_eq_true ht, Bool.not_true, brn_false, callD_of (c_Roll t)]
  obtain ⟨r, d1, h1, hr0, hr1, hd1⟩ := c_Rule ⟨t, 0⟩ ⟨Int.le_refl _, by show t.length ≤ 600; omega⟩
  obtain ⟨l, d2, h2, hl, hd2⟩ := c_few d1 hd1
  rw [callD_of h1, callD_of h2, chk_pos (by omega), List.take_length, callD_of (c_Decide r l (by have := hl.1; omega) (few_vals hl))]
  have hlen := hl.1
  have loop : ∀ (j : Nat) (acc : List GGiven), j ≤ l.length → acc.map er = ((l.drop j).map er).reverse →
      k_law30_ArbitrationOrder_1 n (r, d1) (l, d2) (decideV r l) (List.map dGGiven.enc acc) ((j : Int) - 1) = some (r_law30_ArbitrationOrder.enc true) := by
    intro j
    induction j with
    | zero =>
      intro acc _ he
      have hacc : acc.length = l.length := by have := congrArg List.length he; simpa using this
      have hv : ∀ g ∈ acc, g.Value ≤ 1099511627776 := by
        intro g hg
        have : er g ∈ acc.map er := List.mem_map_of_mem hg
        rw [he] at this
        simp only [List.drop_zero, List.mem_reverse, List.mem_map] at this
        obtain ⟨g', hg', e⟩ := this
        have hv' := few_vals hl g' hg'
        have : (er g').Value = (er g).Value := by rw [e]
        have e2 : g'.Value = g.Value := this
        omega
      have hd : decideV r acc = decideV r l := by
        rw [← decideV_er r acc, he, ← decideV_er r l, List.drop_zero]
        refine decideV_reverse r _ ?_
        unfold Falls
        rw [List.pairwise_map]
        exact hl.2.2
      refine t_law30_ArbitrationOrder_1 _ _ _ _ _ _ ?_
      rw [brn_dec, if_neg (by omega), chk_pos (by omega), List.take_length, callD_of (c_Decide r acc (by omega) hv), hd, callD_of c_sane]
      simp
    | succ j ih =>
      intro acc hj he
      refine t_law30_ArbitrationOrder_1 _ _ _ _ _ _ ?_
      have e0 : ((j + 1 : Nat) : Int) - 1 = (j : Int) := by omega
      have hacc : acc.length ≤ l.length := by have := congrArg List.length he; simp at this; omega
      rw [e0, brn_dec, if_pos (by omega), chk_pos (by omega), List.length_map, chk_pos (by show (j : Int) < l.length; omega), Nat.zero_add, Int.toNat_natCast, elemD_get (D := dGGiven) (l := l) (i := j) (by omega), chk_pos rfl,
        chk_pos (by rw [List.length_map]; omega), chk_pos rfl, w64_id (n := (j : Int) - 1) (by omega) (by omega)]
      have := ih (acc ++ [⟨l[j].Script, l[j].Part, w64 (w64 n + w64 (3 * (j : Int))), l[j].Level, l[j].Value, ⟨l[j].Stamp.Time, l[j].Stamp.Source, l[j].Stamp.Seq⟩⟩]) (by omega) (by
        rw [List.map_append, he, List.drop_eq_getElem_cons (show j < l.length by omega)]
        show _ = (er l[j] :: List.map er (l.drop (j + 1))).reverse
        rw [List.reverse_cons]
        rfl)
      rw [List.map_append] at this
      exact this
  have := loop l.length [] (Nat.le_refl _) (by simp)
  rw [List.length_map, w64_id (n := (l.length : Int) - 1) (by omega) (by omega)]
  exact this

end Go.Proofs.Ytkmdeoejdlcjeaa
