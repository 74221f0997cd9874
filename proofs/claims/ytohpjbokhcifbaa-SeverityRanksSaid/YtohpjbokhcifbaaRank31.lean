/- Ranking of markers: what it computes, and the statement on it. -/
import Derived.Test.YtohpjbokhcifbaaBnd31
import Derived.Test.YtohpjbokhcifbaaKap31
import Derived.Test.YtohpjbokhcifbaaSortR
namespace Go.Proofs.Ytohpjbokhcifbaa
open Go.Ab Go.Pure Go.PureS Go.Sort
set_option linter.unusedVariables false

/-! ## plain: sizes, the order of markers -/

def absR (r : Rat) : Rat := if r < 0 then -r else r
def szR (l : List GJudged) (m : Int) : Rat := absR (mnR idF m l)
def ltR (l : List GJudged) (x y : Int) : Bool := decide (szR l y < szR l x ∨ (szR l x = szR l y ∧ x < y))

theorem ltR_true {l : List GJudged} {x y : Int} : ltR l x y = true ↔ (szR l y < szR l x ∨ (szR l x = szR l y ∧ x < y)) := by unfold ltR; rw [decide_eq_true_eq]
theorem ltR_false {l : List GJudged} {x y : Int} : ltR l x y = false ↔ ¬ (szR l y < szR l x ∨ (szR l x = szR l y ∧ x < y)) := by unfold ltR; rw [decide_eq_false_iff_not]

theorem swoR (l : List GJudged) : SWO (ltR l) where
  irrefl := fun x => by rw [ltR_false]; grind
  trans := fun x y z h1 h2 => by
    rw [ltR_true] at h1 h2 ⊢
    grind
  ntrans := fun x y z h1 h2 => by
    rw [ltR_false] at h1 h2 ⊢
    grind

theorem ltR_anti {l : List GJudged} {x y : Int} (h1 : ltR l x y = false) (h2 : ltR l y x = false) : x = y := by
  rw [ltR_false] at h1 h2
  have : ¬ (x < y) ∨ ¬ (y < x) := by omega
  have e : szR l x = szR l y := by grind
  have : ¬ x < y := fun q => h1 (.inr ⟨e, q⟩)
  have : ¬ y < x := fun q => h2 (.inr ⟨e.symm, q⟩)
  omega

/-- sorted lists with the same elements are the same -/
theorem sorted_eq {lt : Int → Int → Bool} (hA : ∀ x y, lt x y = false → lt y x = false → x = y) : ∀ (a b : List Int), a.Perm b → a.Pairwise (fun x y => lt y x = false) → b.Pairwise (fun x y => lt y x = false) → a = b
  | [], b, hp, _, _ => by rw [List.nil_perm.1 hp]
  | x :: a, [], hp, _, _ => by exact absurd (List.perm_nil.1 hp) (by simp)
  | x :: a, y :: b, hp, h1, h2 => by
    have p1 := List.pairwise_cons.1 h1
    have p2 := List.pairwise_cons.1 h2
    have hxy : x = y := by
      have hx : x ∈ y :: b := hp.mem_iff.1 (by simp)
      have hy : y ∈ x :: a := hp.mem_iff.2 (by simp)
      rcases List.mem_cons.1 hx with e | hx
      · exact e
      · rcases List.mem_cons.1 hy with e | hy
        · exact e.symm
        · exact hA x y (p2.1 x hx) (p1.1 y hy)
    subst hxy
    rw [sorted_eq hA a b (List.Perm.cons_inv hp) p1.2 p2.2]

/-- markers in the order in which they come -/
def dist (p : List GJudged) : List Int := p.foldl (fun ms j => if j.Marker ∈ ms then ms else ms ++ [j.Marker]) []

theorem dist_snoc (p : List GJudged) (j : GJudged) : dist (p ++ [j]) = if j.Marker ∈ dist p then dist p else dist p ++ [j.Marker] := by unfold dist; rw [List.foldl_append]; rfl

theorem snoc_ind {α : Type} {Q : List α → Prop} (h0 : Q []) (hs : ∀ l a, Q l → Q (l ++ [a])) (l : List α) : Q l := by
  rw [← List.reverse_reverse l]
  induction l.reverse with
  | nil => exact h0
  | cons a r ih => rw [List.reverse_cons]; exact hs _ _ ih

theorem dist_mem : ∀ (p : List GJudged) (m : Int), m ∈ dist p ↔ ∃ j ∈ p, j.Marker = m := by
  intro p
  refine snoc_ind (Q := fun p => ∀ m, m ∈ dist p ↔ ∃ j ∈ p, j.Marker = m) ?_ ?_ p
  · intro m; simp [dist]
  · intro p j ih m
    rw [dist_snoc]
    split
    · rename_i h
      rw [ih]
      constructor
      · rintro ⟨x, hx, e⟩; exact ⟨x, by simp [hx], e⟩
      · rintro ⟨x, hx, e⟩
        rcases List.mem_append.1 hx with hx | hx
        · exact ⟨x, hx, e⟩
        · rw [List.mem_singleton.1 hx] at e; rw [← e]; exact (ih _).1 h
    · rw [List.mem_append, ih, List.mem_singleton]
      constructor
      · rintro (⟨x, hx, e⟩ | e)
        · exact ⟨x, by simp [hx], e⟩
        · exact ⟨j, by simp, e.symm⟩
      · rintro ⟨x, hx, e⟩
        rcases List.mem_append.1 hx with hx | hx
        · exact .inl ⟨x, hx, e⟩
        · rw [List.mem_singleton.1 hx] at e; exact .inr e.symm

theorem dist_nodup (p : List GJudged) : (dist p).Nodup := by
  refine snoc_ind (Q := fun p => (dist p).Nodup) ?_ ?_ p
  · simp [dist]
  · intro p j ih
    rw [dist_snoc]
    split
    · exact ih
    · rename_i h
      rw [List.nodup_append]
      refine ⟨ih, by simp, fun a ha b hb e => ?_⟩
      rw [List.mem_singleton.1 hb] at e
      exact h (e ▸ ha)

theorem dist_len (p : List GJudged) : (dist p).length ≤ p.length := by
  refine snoc_ind (Q := fun p => (dist p).length ≤ p.length) ?_ ?_ p
  · simp [dist]
  · intro p j ih
    rw [dist_snoc, List.length_append]
    split
    · simp; omega
    · rw [List.length_append]; simp; omega

theorem ct_mem {m : Int} : ∀ {l : List GJudged}, (∃ j ∈ l, j.Marker = m) → ct m l ≠ 0
  | [], h => by obtain ⟨j, hj, _⟩ := h; simp at hj
  | x :: t, h => by
    obtain ⟨j, hj, e⟩ := h
    simp only [ct]
    rcases List.mem_cons.1 hj with rfl | hj
    · rw [if_pos e]; omega
    · have := ct_mem (m := m) ⟨j, hj, e⟩; omega

theorem ct_app (m : Int) : ∀ a b : List GJudged, ct m (a ++ b) = ct m a + ct m b
  | [], b => by simp [ct]
  | x :: a, b => by rw [List.cons_append]; simp only [ct]; rw [ct_app m a b]; omega
theorem sm_app (f : Int → Int) (m : Int) : ∀ a b : List GJudged, sm f m (a ++ b) = sm f m a + sm f m b
  | [], b => by simp [sm]
  | x :: a, b => by rw [List.cons_append]; simp only [sm]; rw [sm_app f m a b]; omega
theorem ct_rev (m : Int) : ∀ a : List GJudged, ct m a.reverse = ct m a
  | [] => rfl
  | x :: a => by rw [List.reverse_cons, ct_app, ct_rev m a]; simp only [ct]; omega
theorem sm_rev (f : Int → Int) (m : Int) : ∀ a : List GJudged, sm f m a.reverse = sm f m a
  | [] => rfl
  | x :: a => by rw [List.reverse_cons, sm_app, sm_rev f m a]; simp only [sm]; omega
theorem mn_rev (f : Int → Int) (m : Int) (a : List GJudged) : mnR f m a.reverse = mnR f m a := by unfold mnR; rw [ct_rev, sm_rev]

theorem abs_of (r : Rat) (h : -9223372036854775808 < r.num) (h2 : r.num < 9223372036854775808) :
    (⟨if w64 (0 - (ofR r).Num) > (ofR r).Num then w64 (0 - (ofR r).Num) else (ofR r).Num, (ofR r).Den⟩ : GRatio) = ofR (absR r) := by
  have e : w64 (0 - (ofR r).Num) = -r.num := by rw [oN, w64_id (by omega) (by omega)]; omega
  rw [e, oN, oD]
  unfold absR
  by_cases q : r < 0
  · have := (num_neg r).2 q
    rw [if_pos q, if_pos (by omega)]; rfl
  · have : ¬ r.num < 0 := fun w => q ((num_neg r).1 w)
    rw [if_neg q, if_neg (by omega)]; rfl

theorem bd_abs {n d : Nat} {r : Rat} (h : Bd n d r) : Bd n d (absR r) := by
  unfold absR; split
  · exact h.neg
  · exact h

theorem sm40 (m : Int) : ∀ l : List GJudged, (∀ j ∈ l, JOk j) → sm idF m l ≤ 40 * (ct m l : Int) ∧ -(40 * (ct m l : Int)) ≤ sm idF m l
  | [], _ => by simp [sm, ct]
  | j :: t, h => by
    have ih := sm40 m t (fun x q => h x (by simp [q]))
    obtain ⟨h1, h2, h3, h4, h5, h6⟩ := h j (by simp)
    simp only [sm, ct]
    by_cases hm : j.Marker = m
    · simp only [if_pos hm, idF_eq]; omega
    · simp only [if_neg hm]; omega

/-! ## the table of sizes -/

def tabOf (l : List GJudged) (ms : List Int) : List GRatio := (List.range 100).map fun (i : Nat) => if (i : Int) ∈ ms then ofR (szR l i) else ⟨0, 0⟩

theorem tab_len (l : List GJudged) (ms : List Int) : (tabOf l ms).length = 100 := by simp [tabOf]
theorem tab_get (l : List GJudged) (ms : List Int) (i : Nat) (h : i < (tabOf l ms).length) : (tabOf l ms)[i] = if (i : Int) ∈ ms then ofR (szR l i) else ⟨0, 0⟩ := by simp [tabOf]
theorem tab_snoc (l : List GJudged) (ms : List Int) (m : Int) (h0 : 0 ≤ m) (h1 : m < 100) : tabOf l (ms ++ [m]) = (tabOf l ms).set m.toNat (ofR (szR l m)) := by
  apply List.ext_getElem
  · simp [tabOf]
  · intro i h1 h2
    rw [tab_get, List.getElem_set]
    by_cases h : m.toNat = i
    · have e : (i : Int) = m := by omega
      rw [if_pos h, if_pos (by rw [e]; simp), e]
    · have e : ¬ (i : Int) = m := by omega
      rw [if_neg h, tab_get]
      simp only [List.mem_append, List.mem_singleton, e, or_false]

theorem c_cmpI (a b : Int) : cw f_cmp_Compare_int [I a, I b] [] = some (r_cmp_Compare_int.enc (cmpZ a b)) := by
  refine e_cmp_Compare_int a b ?_
  have n : ∀ x : Int, cw f_cmp_isNaN_int [I x] [] = some (r_cmp_isNaN_int.enc false) := fun x => e_cmp_isNaN_int x (by rw [bne_self_eq_false])
  rw [callD_of (n a), callD_of (n b), brn_F, brn_F, brn_dec, brn_dec]
  unfold cmpZ
  split
  · rfl
  · split <;> rfl

theorem c_or2 (a b : Int) : cw f_cmp_Or_int [.sl 1 (List.map dI_i64.enc [a, b])] [] = some (r_cmp_Or_int.enc (if a ≠ 0 then a else b)) := by
  refine e_cmp_Or_int _ ?_
  refine t_cmp_Or_int_1 _ _ ?_
  rw [List.length_map, brn_dec, if_pos (by simp), chk_pos (by omega), elemD_map (D := dI_i64) (l := [a, b]) (i := (0 : Int).toNat) (x := a) rfl]
  by_cases h : a = 0
  · subst h
    rw [brn_f (by rfl), if_neg (by simp)]
    refine t_cmp_Or_int_1 _ _ ?_
    rw [List.length_map, brn_dec, if_pos (by show (1 : Int) < 2; omega), chk_pos (by show (0 : Int) ≤ 1; omega), elemD_map (D := dI_i64) (l := [0, b]) (i := (w64 (0 + 1)).toNat) (x := b) rfl]
    by_cases hb : b = 0
    · subst hb
      rw [brn_f (by rfl)]
      refine t_cmp_Or_int_1 _ _ ?_
      rw [List.length_map, brn_dec, if_neg (by show ¬ (2 : Int) < 2; omega)]
    · rw [brn_t (by simpa using hb)]
  · rw [brn_t (by simpa using h), if_pos h]

theorem cmpR_neg (a b : Rat) : cmpZ (a.num * b.den) (b.num * a.den) < 0 ↔ a < b := by
  rw [Rat.lt_iff]
  unfold cmpZ
  split
  · rename_i h; exact ⟨fun _ => h, fun _ => by omega⟩
  · rename_i h; split
    · exact ⟨fun q => by omega, fun q => absurd q h⟩
    · exact ⟨fun q => by omega, fun q => absurd q h⟩

theorem cmpR_zero (a b : Rat) : cmpZ (a.num * b.den) (b.num * a.den) = 0 ↔ a = b := by
  have h1 := Rat.lt_iff a b
  have h2 := Rat.lt_iff b a
  unfold cmpZ
  constructor
  · intro h
    split at h
    · omega
    · split at h
      · omega
      · have n1 : ¬ a < b := fun q => by have := h1.1 q; omega
        have n2 : ¬ b < a := fun q => by have := h2.1 q; omega
        grind
  · rintro rfl
    rw [if_neg (by omega), if_neg (by omega)]

theorem cmp_ok {l : List GJudged} (hl : RL l) (ms : List Int) (hms : ∀ m ∈ ms, 0 ≤ m ∧ m < 100) : Cmp (tabOf l ms) (ltR l) (fun x => x ∈ ms) where
  ans := fun x y hx hy => by
    have bx := hms x hx
    have by_ := hms y hy
    refine ⟨if cmpZ ((szR l y).num * (szR l x).den) ((szR l x).num * (szR l y).den) ≠ 0 then cmpZ ((szR l y).num * (szR l x).den) ((szR l x).num * (szR l y).den) else cmpZ x y, e_severity_Rank_1 x y _ ?_, ?_⟩
    · have hy' : y.toNat < (tabOf l ms).length := by rw [tab_len]; omega
      have hx' : x.toNat < (tabOf l ms).length := by rw [tab_len]; omega
      have ey : ((y.toNat : Nat) : Int) = y := by omega
      have ex : ((x.toNat : Nat) : Int) = x := by omega
      rw [chk_pos (by omega), chk_pos (by show y < 100; omega), elemD_get hy', chk_pos (by omega), chk_pos (by show x < 100; omega), elemD_get hx', tab_get, tab_get, ey, ex, if_pos hy, if_pos hx,
        callD_of (c_Compare (szR l y) (szR l x) (bd_abs (bd_mn sm_id hl y)) (bd_abs (bd_mn sm_id hl x)) (by omega) (by omega) (by omega) (by omega)), callD_of (c_cmpI x y), callD_of (c_or2 _ _)]
    · unfold ltR
      rw [decide_eq_decide]
      have h1 := cmpR_neg (szR l y) (szR l x)
      have h2 := cmpR_zero (szR l y) (szR l x)
      by_cases h : cmpZ ((szR l y).num * (szR l x).den) ((szR l x).num * (szR l y).den) = 0
      · have e := h2.1 h
        rw [if_neg (fun q => q h)]
        have hc : cmpZ x y < 0 ↔ x < y := by
          unfold cmpZ; split
          · omega
          · split <;> omega
        rw [hc]
        constructor
        · intro q; exact .inr ⟨e.symm, q⟩
        · rintro (q | q)
          · exact absurd (h1.2 q) (by omega)
          · exact q.2
      · rw [if_pos h, h1]
        constructor
        · exact .inl
        · rintro (q | q)
          · exact q
          · exact absurd (h2.2 q.1.symm) h

/-- what the ranking is -/
def IsRank (l : List GJudged) (r : List Int) : Prop := r.Perm (dist l) ∧ r.Pairwise (fun x y => ltR l y x = false)

theorem c_Rank {l : List GJudged} (hl : RL l) (h50 : l.length < 50) : ∃ r, cw f_severity_Rank [aJ l] [] = some (r_severity_Rank.enc r) ∧ IsRank l r := by
  have hmk : ∀ m ∈ dist l, 0 ≤ m ∧ m < 100 := fun m hm => by
    obtain ⟨j, hj, rfl⟩ := (dist_mem l m).1 hm
    obtain ⟨h1, h2, _⟩ := hl.2 j hj
    omega
  have hdl := dist_len l
  obtain ⟨r, hs, hp, hw⟩ := c_SortFunc (cmp_ok hl (dist l) hmk) (swoR l) (dist l) (fun x hx => hx) (by omega)
  refine ⟨r, e_severity_Rank l ?_, hp, hw⟩
  rw [callD_of (c_right hl), brn_nt]
  have hlen : r.length = (dist l).length := hp.length_eq
  have key : ∀ (k i : Nat), i + k = l.length → k_severity_Rank_1 l (List.map dI_i64.enc (dist (l.take i))) (List.map dGRatio.enc (tabOf l (dist (l.take i)))) (i : Nat) = some (r_severity_Rank.enc r) := by
    intro k
    induction k with
    | zero =>
      intro i hi
      rw [List.take_of_length_le (by omega)]
      refine t_severity_Rank_1 l _ _ _ ?_
      rw [List.length_map, brn_dec, if_neg (by omega), chk_pos (by rw [List.length_map, tab_len]; omega), callD_of hs, chk_pos (by rw [List.length_map, tab_len]; omega), chk_pos (by rw [List.length_map, tab_len]; omega), chk_pos (by rw [List.length_map, List.length_map]; omega)]
    | succ k ih =>
      intro i hi
      have hi1 : i < l.length := by omega
      have IH := ih (i + 1) (by omega)
      obtain ⟨m1, m2, _⟩ := hl.2 l[i] (List.getElem_mem hi1)
      rw [List.take_succ_eq_append_getElem hi1, dist_snoc] at IH
      refine t_severity_Rank_1 l _ _ _ ?_
      have hg : l[i].Marker.toNat < (tabOf l (dist (l.take i))).length := by rw [tab_len]; omega
      have eg : ((l[i].Marker.toNat : Nat) : Int) = l[i].Marker := by omega
      rw [List.length_map, brn_dec, if_pos (by omega), chk_pos (by omega), Int.toNat_natCast, elemD_get hi1, chk_pos (by omega), chk_pos (by show l[i].Marker < 100; omega), Nat.zero_add, elemD_get hg, tab_get, eg]
      have dl := dist_len (l.take i)
      rw [List.length_take] at dl
      have en : w64 ((i : Nat) + 1) = ((i + 1 : Nat) : Int) := by rw [w64_id (by omega) (by omega)]; omega
      by_cases hm : l[i].Marker ∈ dist (l.take i)
      · rw [if_pos hm] at IH ⊢
        have : (ofR (szR l l[i].Marker)).Den ≠ 0 := by rw [oD]; have := (szR l l[i].Marker).den_pos; omega
        rw [brn_t (by simpa using this), en]
        exact IH
      · rw [if_neg hm] at IH ⊢
        have hb := (bd_mn sm_id hl l[i].Marker).1
        have hb' : (mnR idF l[i].Marker l).num.natAbs ≤ 32768 := hb
        rw [brn_f (by rfl), callD_of (c_Bias hl l[i].Marker), chk_pos (by omega), chk_pos (by show l[i].Marker < 100; omega), elemD_get hg, chk_pos rfl, chk_pos (by rw [List.length_map]; omega), chk_pos rfl, en, abs_of _ (by omega) (by omega)]
        rw [List.map_append, tab_snoc l _ _ (by omega) (by omega), List.map_set] at IH
        exact IH
  have h0 := key l.length 0 (by omega)
  have e0 : List.map dGRatio.enc (tabOf l (dist (l.take 0))) = List.replicate 100 (dGRatio.enc ⟨0, 0⟩) := by
    apply List.ext_getElem
    · rw [List.length_map, tab_len, List.length_replicate]
    · intro i h1 h2
      rw [List.getElem_map, tab_get, List.getElem_replicate, if_neg (by simp [dist])]
  rw [e0] at h0
  exact h0

theorem bd40 {l : List GJudged} (hl : RL l) (m : Int) (h : True) : szR l m ≤ 40 := by
  have hb := fun (l : List GJudged) (h : ∀ j ∈ l, JOk j) => sm40 m l h
  have := hb l hl.2
  unfold szR absR mnR
  by_cases h0 : ct m l = 0
  · rw [if_pos h0]; simp; exact (by decide : (0 : Rat) ≤ 40)
  · rw [if_neg h0]
    have hp : 0 < ct m l := by omega
    have e40 : (40 : Rat) = mkRat 40 1 := rfl
    split
    · rw [mk_neg, ← Rat.not_lt, e40, mk_lt (by omega) hp]; omega
    · rw [← Rat.not_lt, e40, mk_lt (by omega) hp]; omega

/-! ## the statement -/

theorem mfind_mput {κ ν : Type} [DecidableEq κ] (k k' : κ) (v : ν) : ∀ l : List (κ × ν), mfind k (mput k' v l) = if k' = k then some v else mfind k l
  | [] => by simp [mput, mfind]
  | p :: r => by
    simp only [mput]
    by_cases h : p.1 = k'
    · rw [if_pos h]
      simp only [mfind]
      by_cases h2 : k' = k
      · rw [if_pos h2, if_pos h2]
      · rw [if_neg h2, if_neg h2, if_neg (by rw [h]; exact h2)]
    · rw [if_neg h]
      simp only [mfind]
      rw [mfind_mput k k' v r]
      by_cases h2 : p.1 = k
      · rw [if_pos h2, if_pos h2, if_neg (fun e => h (by rw [h2, e]))]
      · rw [if_neg h2, if_neg h2]

theorem rank_rev {l : List GJudged} {r r' : List Int} (h : IsRank l r) (h' : IsRank l.reverse r') : r' = r := by
  have e : ∀ x y, ltR l.reverse x y = ltR l x y := fun x y => by unfold ltR szR; rw [mn_rev, mn_rev]
  refine sorted_eq (lt := ltR l) (fun x y => ltR_anti) r' r ?_ (by simpa only [e] using h'.2) h.2
  refine (h'.1.trans ?_).trans h.1.symm
  rw [List.perm_ext_iff_of_nodup (dist_nodup _) (dist_nodup _)]
  intro m
  rw [dist_mem, dist_mem]
  simp only [List.mem_reverse]

section
variable {l : List GJudged} {d : GmarkDice} {r : List Int}

theorem rank_at (hr : IsRank l r) {i j : Nat} (hi : i < r.length) (hj : j < r.length) (hij : i < j) : ltR l r[j] r[i] = false := by
  have := List.pairwise_iff_getElem.1 hr.2 i j hi hj hij
  exact this

theorem k3_Ranks (hl : RL l) (hr : IsRank l r) (h50 : l.length < 50) (m : List (Int × Bool)) (hm : ∀ k, (mfind k m).getD false = decide (k ∈ r)) : ∀ (k i : Nat), i + k = l.length →
    k_law31_SeverityRanks_3 (l, d) (List.map dGJudged.enc l.reverse) r (List.map dE_I_i64_Bool.enc m) (i : Nat) = some (r_law31_SeverityRanks.enc true) := by
  intro k
  have hrev : RL l.reverse := ⟨by rw [List.length_reverse]; exact hl.1, fun j hj => hl.2 j (List.mem_reverse.1 hj)⟩
  have et : List.take (List.map dGJudged.enc l).length (List.map dGJudged.enc l) = List.map dGJudged.enc l := List.take_length
  have hrl : r.length ≤ 50 := by have := hr.1.length_eq; have := dist_len l; omega
  induction k with
  | zero =>
    intro i hi
    refine t_law31_SeverityRanks_3 _ _ _ _ _ ?_
    obtain ⟨r', c1, c2⟩ := c_Rank hrev (by rw [List.length_reverse]; omega)
    have e := rank_rev hr c2
    subst e
    rw [et, List.length_map, brn_dec, if_neg (by show ¬ ((i : Nat) : Int) < (l.length : Int); omega), chk_pos (by omega), List.take_length, callD_of c1, chk_pos (by omega), chk_pos (by omega), chk_pos (by omega), chk_pos (by omega), List.take_length, callD_of (c_same r' r' (by omega)), decide_eq_true rfl, brn_T, callD_of c_sane]
  | succ k ih =>
    intro i hi
    have hi1 : i < l.length := by omega
    refine t_law31_SeverityRanks_3 _ _ _ _ _ ?_
    have hin : l[i].Marker ∈ r := hr.1.mem_iff.2 ((dist_mem l _).2 ⟨l[i], List.getElem_mem hi1, rfl⟩)
    have en : w64 ((i : Nat) + 1) = ((i + 1 : Nat) : Int) := by rw [w64_id (by omega) (by omega)]; omega
    rw [et, List.length_map, brn_dec, if_pos (by show ((i : Nat) : Int) < (l.length : Int); omega), chk_pos (by omega), Int.toNat_natCast, elemD_get hi1, lk_M_i64_bool false, hm, decide_eq_true hin, brn_nt, en]
    exact ih (i + 1) (by omega)

theorem k2_Ranks (hl : RL l) (hr : IsRank l r) (h50 : l.length < 50) : ∀ (k i : Nat), i + k = r.length → ∀ (m : List (Int × Bool)), (∀ k, (mfind k m).getD false = decide (k ∈ r.take i)) →
    k_law31_SeverityRanks_2 (l, d) (List.map dGJudged.enc l.reverse) r (if h : 0 < i ∧ i - 1 < r.length then ofR (szR l (r[i - 1]'h.2)) else ⟨100, 1⟩) (List.map dE_I_i64_Bool.enc m) (i : Nat) = some (r_law31_SeverityRanks.enc true) := by
  intro k
  have et : List.take (List.map dGJudged.enc l).length (List.map dGJudged.enc l) = List.map dGJudged.enc l := List.take_length
  have hrl : r.length ≤ 50 := by have := hr.1.length_eq; have := dist_len l; omega
  have hnd : r.Nodup := hr.1.nodup_iff.2 (dist_nodup l)
  induction k with
  | zero =>
    intro i hi m hm
    refine t_law31_SeverityRanks_2 _ _ _ _ _ _ ?_
    rw [List.length_map, brn_dec, if_neg (by omega)]
    refine k3_Ranks hl hr h50 m ?_ l.length 0 (by omega)
    rwa [List.take_of_length_le (by omega)] at hm
  | succ k ih =>
    intro i hi m hm
    have hi1 : i < r.length := by omega
    have hin : r[i] ∈ r := List.getElem_mem hi1
    obtain ⟨j, hj, ej⟩ := (dist_mem l _).1 (hr.1.mem_iff.1 hin)
    have hhas : has r[i] l = true := has_t (ct_mem ⟨j, hj, ej⟩)
    have bB := bd_mn sm_id hl r[i]
    have hb' : (mnR idF r[i] l).num.natAbs ≤ 32768 := bB.1
    have en : w64 ((i : Nat) + 1) = ((i + 1 : Nat) : Int) := by rw [w64_id (by omega) (by omega)]; omega
    have hnot : r[i] ∉ r.take i := by
      intro q
      obtain ⟨t, ht, e⟩ := List.mem_iff_getElem.1 q
      rw [List.getElem_take] at e
      rw [List.length_take] at ht
      exact absurd ((List.getElem_inj hnd).1 e) (by omega)
    -- behind the sign: one step for both
    have step : ∀ (x : Int), (
      brn (!has r[i] l) (some (B false, []))
  (mapD zP 3 false dBool (B false) (List.map dE_I_i64_Bool.enc m) (I r[i]) fun (c14 : Bool) (b15 : Bool) =>
   brn c14 (some (B false, []))
   (callD r_ref01_Less (cw f_ref01_Less [.agg (dGRatio.enc (if h : 0 < i ∧ i - 1 < r.length then ofR (szR l (r[i - 1]'h.2)) else ⟨100, 1⟩)), aR (szR l r[i])] []) fun (r16 : Bool) =>
    brn r16 (some (B false, []))
    (brn (decide (0 < ((i : Nat) : Int))) (brn ((ofR (szR l r[i])).Num == ((if h : 0 < i ∧ i - 1 < r.length then ofR (szR l (r[i - 1]'h.2)) else ⟨100, 1⟩) : GRatio).Num && ((ofR (szR l r[i])).Den == ((if h : 0 < i ∧ i - 1 < r.length then ofR (szR l (r[i - 1]'h.2)) else ⟨100, 1⟩) : GRatio).Den && true)) (chk ((0 : Int) ≤ (w64 (((i : Nat) : Int) - 1))) <|
       chk ((w64 (((i : Nat) : Int) - 1) : Int) < ((↑(List.map dI_i64.enc r).length : Int))) <|
       elemD dI_i64 (List.map dI_i64.enc r) (0 + (w64 (((i : Nat) : Int) - 1)).toNat) fun (c17 : Int) =>
       brn (decide (r[i] ≤ c17)) (some (B false, []))
       (msetD zP 3 4 (I r[i]) (B true) (List.map dE_I_i64_Bool.enc m) fun (m18 : List (List AV)) =>
        k_law31_SeverityRanks_2 (l, d) (List.map dGJudged.enc l.reverse) r (ofR (szR l r[i])) m18 (w64 (((i : Nat) : Int) + 1))))
      (msetD zP 3 4 (I r[i]) (B true) (List.map dE_I_i64_Bool.enc m) fun (m19 : List (List AV)) =>
       k_law31_SeverityRanks_2 (l, d) (List.map dGJudged.enc l.reverse) r (ofR (szR l r[i])) m19 (w64 (((i : Nat) : Int) + 1))))
     (msetD zP 3 4 (I r[i]) (B true) (List.map dE_I_i64_Bool.enc m) fun (m20 : List (List AV)) =>
      k_law31_SeverityRanks_2 (l, d) (List.map dGJudged.enc l.reverse) r (ofR (szR l r[i])) m20 (w64 (((i : Nat) : Int) + 1))))))) = some (r_law31_SeverityRanks.enc true) := by
      intro _
      have go : k_law31_SeverityRanks_2 (l, d) (List.map dGJudged.enc l.reverse) r (ofR (szR l r[i])) (List.map dE_I_i64_Bool.enc (mput r[i] true m)) ((i + 1 : Nat) : Int) = some (r_law31_SeverityRanks.enc true) := by
        have := ih (i + 1) (by omega) (mput r[i] true m) (fun k => by
          rw [mfind_mput, List.take_succ_eq_append_getElem hi1]
          by_cases h : r[i] = k
          · rw [if_pos h]; simp [h]
          · rw [if_neg h, hm, decide_eq_decide, List.mem_append, List.mem_singleton]
            exact ⟨.inl, fun q => q.elim id (fun e => absurd e.symm h)⟩)
        rw [dif_pos ⟨by omega, by omega⟩] at this
        exact this
      rw [hhas, brn_nt, lk_M_i64_bool false, hm, decide_eq_false hnot, brn_F, en]
      by_cases h0 : i = 0
      · subst h0
        rw [dif_neg (by omega)]
        have b100 : Bd 15 9 (100 : Rat) := ⟨by decide, by decide⟩
        have hle : ¬ ((100 : Rat) < szR l r[0]) := by
          have hsz := bd40 hl r[0] trivial
          intro q; grind
        show callD r_ref01_Less (cw f_ref01_Less [aR 100, aR (szR l r[0])] []) _ = _
        rw [callD_of (c_rLess 100 (szR l r[0]) b100 (bd_abs bB) (by omega) (by omega) (by omega) (by omega)), decide_eq_false hle, brn_F, brn_dec, if_neg (by omega), st_M_i64_bool]
        exact go
      · have hp : i - 1 < r.length := by omega
        rw [dif_pos ⟨by omega, hp⟩]
        have hlt := ltR_false.1 (rank_at hr hp hi1 (by omega))
        have hle : ¬ (szR l (r[i - 1]'hp) < szR l r[i]) := fun q => hlt (.inl q)
        rw [callD_of (c_rLess (szR l (r[i - 1]'hp)) (szR l r[i]) (bd_abs (bd_mn sm_id hl _)) (bd_abs bB) (by omega) (by omega) (by omega) (by omega)), decide_eq_false hle, brn_F, brn_dec, if_pos (by omega), eqR]
        by_cases he : szR l r[i] = szR l (r[i - 1]'hp)
        · have e1 : w64 (((i : Nat) : Int) - 1) = ((i - 1 : Nat) : Int) := by rw [w64_id (by omega) (by omega)]; omega
          have hge : ¬ r[i] < r[i - 1]'hp := fun q => hlt (.inr ⟨he, q⟩)
          have hne : ¬ r[i] = r[i - 1]'hp := fun e => absurd ((List.getElem_inj hnd).1 e) (by omega)
          rw [decide_eq_true he, brn_T, e1, chk_pos (by omega), chk_pos (by rw [List.length_map]; omega), Int.toNat_natCast, Nat.zero_add, elemD_get hp, brn_dec, if_neg (by omega), st_M_i64_bool]
          exact go
        · rw [decide_eq_false he, brn_F, st_M_i64_bool]
          exact go
    refine t_law31_SeverityRanks_2 _ _ _ _ _ _ ?_
    rw [et, List.length_map, brn_dec, if_pos (by omega), chk_pos (by omega), chk_pos (by omega), Int.toNat_natCast, Nat.zero_add, elemD_get hi1, callD_of (c_Bias hl r[i]), brn_dec]
    have st := step 0
    rw [List.length_map] at st
    split
    · rename_i hneg
      have e : szR l r[i] = -(mnR idF r[i] l) := by unfold szR absR; rw [if_pos ((num_neg _).1 hneg)]
      refine t_law31_SeverityRanks_1018 _ _ _ _ _ _ _ _ ?_
      have en2 := negR (mnR idF r[i] l) (by omega) (by omega)
      rw [← e] at en2
      have e3 : w64 (0 - (ofR (mnR idF r[i] l)).Num) = (ofR (szR l r[i])).Num := by have := congrArg GRatio.Num en2; exact this
      have e4 : (ofR (mnR idF r[i] l)).Den = (ofR (szR l r[i])).Den := by have := congrArg GRatio.Den en2; exact this
      rw [List.length_map, e3, e4]
      exact st
    · rename_i hneg
      have e : szR l r[i] = mnR idF r[i] l := by unfold szR absR; rw [if_neg (fun q => hneg ((num_neg _).2 q))]
      refine t_law31_SeverityRanks_1018v1 _ _ _ _ _ _ _ _ ?_
      rw [List.length_map, ← e]
      exact st
end

theorem law_Ranks (t : List Int) : cw f_law31_SeverityRanks [.sl 1 (List.map dI_i64.enc t)] [] = some (r_law31_SeverityRanks.enc true) := by
  refine e_law31_SeverityRanks t ?_
  rw [callD_of (c_Light t)]
  by_cases ht : (t.length : Int) ≤ 600
  case neg => rw [decide_eq_false ht, brn_nf, callD_of c_sane]
  obtain ⟨l, d, hp, hj, hlen⟩ := c_pairs ⟨t, 0⟩ ⟨by show (0 : Int) ≤ 0; omega, by show t.length ≤ 600; omega⟩
  have hl := rl_of hj hlen
  rw [decide_eq_true ht, brn_nt, callD_of (c_Roll t), callD_of hp]
  have et : List.take (List.map dGJudged.enc l).length (List.map dGJudged.enc l) = List.map dGJudged.enc l := List.take_length
  obtain ⟨r, hr, hR⟩ := c_Rank hl (by omega)
  have key : ∀ (k : Nat), k ≤ l.length → k_law31_SeverityRanks_1 (l, d) (List.map dGJudged.enc ((l.drop k).reverse)) ((k : Int) - 1) = some (r_law31_SeverityRanks.enc true) := by
    intro k
    induction k with
    | zero =>
      intro _
      refine t_law31_SeverityRanks_1 _ _ _ ?_
      rw [brn_dec, if_neg (by omega), chk_pos (by omega), et, callD_of hr, chk_pos (by omega), chk_pos (by omega)]
      have := k2_Ranks (d := d) hl hR (by omega) r.length 0 (by omega) [] (fun k => by simp [mfind])
      rw [dif_neg (by omega)] at this
      exact this
    | succ k ih =>
      intro hk
      have hk1 : k < l.length := by omega
      have IH := ih (by omega)
      rw [List.drop_eq_getElem_cons hk1, List.reverse_cons, List.map_append] at IH
      refine t_law31_SeverityRanks_1 _ _ _ ?_
      have e1 : (((k + 1 : Nat) : Int) - 1) = ((k : Nat) : Int) := by omega
      have e2 : w64 (((k : Nat) : Int) - 1) = (k : Int) - 1 := w64_id (by omega) (by omega)
      have el : (l, d).fst.length = l.length := rfl
      rw [e1, e2, List.length_map, brn_dec, if_pos (by omega), chk_pos (by omega), chk_pos (by omega), Int.toNat_natCast, Nat.zero_add, elemD_get hk1, chk_pos rfl, chk_pos (by rw [List.length_map, List.length_reverse, List.length_drop]; omega), chk_pos rfl]
      exact IH
  have h0 := key l.length (Nat.le_refl _)
  rw [List.drop_length] at h0
  have e : w64 ((↑(List.map dGJudged.enc (l, d).fst).length : Int) - 1) = (l.length : Int) - 1 := by
    rw [List.length_map]
    show w64 ((l.length : Int) - 1) = _
    exact w64_id (by omega) (by omega)
  rw [e]
  exact h0
end Go.Proofs.Ytohpjbokhcifbaa
