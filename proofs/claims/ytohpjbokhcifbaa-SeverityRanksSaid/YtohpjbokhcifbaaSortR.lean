/- The library's sort by a comparison: what its parts compute is what the guide's plain layer of the sort says. -/
import Derived.Test.YtohpjbokhcifbaaAll
import Derived.Test.YtohpjbokhcifbaaAbTop
import Derived.Sort.AssemblyPlain
namespace Go.Proofs.Ytohpjbokhcifbaa
open Go.Ab Go.Sort
set_option linter.unusedVariables false


/-- the rows of an array -/
noncomputable abbrev Er (d : Array Int) : List (List AV) := List.map dI_i64.enc d.toList

theorem lenE (d : Array Int) : (Er d).length = d.size := by simp

/-- a comparison that answers -/
structure Cmp (cp : List GRatio) (lt : Int → Int → Bool) (P : Int → Prop) : Prop where
  ans : ∀ x y, P x → P y → ∃ v : Int, cw f_severity_Rank_1 [I x, I y, .fa 2 (List.map dGRatio.enc cp)] [] = some (r_severity_Rank_1.enc v) ∧ decide (v < 0) = lt x y

def AllA (P : Int → Prop) (d : Array Int) : Prop := ∀ i, i < d.size → P d[i]!

theorem brnB {β : Type} {c c' : Bool} (h : c = c') (x y : Option β) : brn c x y = brn c' x y := by rw [h]

section
variable {cp : List GRatio} {lt : Int → Int → Bool} {P : Int → Prop}

/-- a comparison within a tree -/
theorem Cmp.step {β : Type} (hc : Cmp cp lt P) {x y : Int} (hx : P x) (hy : P y) (A B : Option β) :
    (callD r_severity_Rank_1 (cw f_severity_Rank_1 [I x, I y, .fa 2 (List.map dGRatio.enc cp)] []) fun (r : Int) => brn (decide (r < 0)) A B) = brn (lt x y) A B := by
  obtain ⟨v, h1, h2⟩ := hc.ans x y hx hy
  rw [callD_of h1, h2]

theorem Cmp.stepN {β : Type} (hc : Cmp cp lt P) {x y : Int} (hx : P x) (hy : P y) (A B : Option β) :
    (callD r_severity_Rank_1 (cw f_severity_Rank_1 [I x, I y, .fa 2 (List.map dGRatio.enc cp)] []) fun (r : Int) => brn (!decide (r < 0)) A B) = brn (lt x y) B A := by
  obtain ⟨v, h1, h2⟩ := hc.ans x y hx hy
  rw [callD_of h1, h2, brn_not]

/-- an element of the array -/
theorem rdA {β : Type} {d : Array Int} {n i : Nat} (hn : n = d.size) (hi : i < d.size) (K : Int → Option β) :
    (chk ((0 : Int) ≤ (i : Int)) <| chk ((i : Int) < (n : Int)) <| elemD dI_i64 (Er d) (0 + ((i : Nat) : Int).toNat) K) = K d[i]! := by
  rw [chk_pos (by omega), chk_pos (by omega), Int.toNat_natCast, Nat.zero_add, elemD_map (D := dI_i64) (l := d.toList) (x := d[i]!) (by simp [hi])]

theorem setA (d : Array Int) (i : Nat) (x : Int) : List.set (Er d) i (dI_i64.enc x) = Er (d.setIfInBounds i x) := by
  show List.set (List.map dI_i64.enc d.toList) i (dI_i64.enc x) = List.map dI_i64.enc (d.setIfInBounds i x).toList
  rw [Array.toList_setIfInBounds, List.map_set]

/-- .. behind a first write -/
theorem rdS {β : Type} {d : Array Int} {n i j : Nat} {x : Int} (hn : n = d.size) (hj : j < d.size) (K : Int → Option β) :
    (chk ((0 : Int) ≤ (j : Int)) <| chk ((j : Int) < (n : Int)) <| elemD dI_i64 (List.set (Er d) (0 + ((i : Nat) : Int).toNat) (dI_i64.enc x)) (0 + ((j : Nat) : Int).toNat) K) = K (d.setIfInBounds i x)[j]! := by
  rw [Int.toNat_natCast, Nat.zero_add i, setA]
  exact rdA (by rw [Array.size_setIfInBounds]; exact hn) (by rw [Array.size_setIfInBounds]; exact hj) K

/-- two elements exchanged -/
theorem swpE (d : Array Int) (i j : Nat) : List.set (List.set (Er d) (0 + ((i : Nat) : Int).toNat) (dI_i64.enc d[j]!)) (0 + ((j : Nat) : Int).toNat) (dI_i64.enc d[i]!) = Er (swp d i j) := by
  rw [Int.toNat_natCast, Int.toNat_natCast, Nat.zero_add, Nat.zero_add, setA, setA]
  rfl

theorem swp_size (d : Array Int) (i j : Nat) : (swp d i j).size = d.size := by unfold swp; rw [Array.size_setIfInBounds, Array.size_setIfInBounds]

theorem AllA.swp {d : Array Int} (h : AllA P d) {i j : Nat} (hi : i < d.size) (hj : j < d.size) : AllA P (swp d i j) := by
  intro k hk
  rw [swp_size] at hk
  have hP := swp_permIn d 0 d.size i j (by omega) hi (by omega) hj (Nat.le_refl _)
  exact permIn_all d (Go.Sort.swp d i j) 0 d.size P (Nat.le_refl _) hP (fun k _ hk => h k hk) k (by omega) hk

theorem AllA.perm {d d' : Array Int} {a b : Nat} (h : AllA P d) (hab : a ≤ b) (hb : b ≤ d.size) (hP : PermIn a b d d') : AllA P d' := by
  intro k hk
  rw [hP.1] at hk
  have hP' := permIn_mono d d' a b 0 d.size (by omega) hb (Nat.le_refl _) hP
  exact permIn_all d d' 0 d.size P (Nat.le_refl _) hP' (fun k _ hk => h k hk) k (by omega) hk

/-! ## insertion -/

theorem k_ins2 (hc : Cmp cp lt P) (a0 : List Int) (a b i : Nat) : ∀ (j : Nat) (d : Array Int) (y : AV × Mem), a0.length = d.size → AllA P d → j < d.size → d.size ≤ 1000000 → i ≤ 1000000 →
    k_slices_insertionSortCmpFunc_int_1 a0 (a : Int) (b : Int) cp (Er (insInner lt a j d)) ((i + 1 : Nat) : Int) = some y →
    k_slices_insertionSortCmpFunc_int_2 a0 (a : Int) (b : Int) cp (i : Int) (Er d) (j : Int) = some y := by
  have ei : ∀ i : Nat, i ≤ 1000000 → w64 ((i : Int) + 1) = ((i + 1 : Nat) : Int) := fun i hi => by rw [w64_id (by omega) (by omega)]; omega
  intro j
  induction j with
  | zero =>
    intro d y hn hP hj hs hi h
    refine t_slices_insertionSortCmpFunc_int_2 _ _ _ cp _ _ _ ?_
    rw [brn_dec, if_neg (by omega), ei i hi]
    exact h
  | succ j ih =>
    intro d y hn hP hj hs hi h
    refine t_slices_insertionSortCmpFunc_int_2 _ _ _ cp _ _ _ ?_
    unfold insInner at h
    have e1 : w64 (((j + 1 : Nat) : Int) - 1) = (j : Int) := by rw [w64_id (by omega) (by omega)]; omega
    rw [brn_dec, e1, ei i hi, List.length_map]
    by_cases ha : a < j + 1
    · rw [if_pos (by omega), rdA hn hj, rdA hn (by omega), hc.step (hP _ hj) (hP _ (by omega))]
      cases hlt : lt d[j + 1]! d[j]! with
      | false =>
        rw [hlt, Bool.and_false, if_neg (by simp)] at h
        rw [brn_false]; exact h
      | true =>
        rw [hlt, Bool.and_true, if_pos (by simpa using ha)] at h
        rw [brn_true, rdA hn (by omega), rdA hn hj, rdA hn hj, rdS hn (by omega), swpE]
        exact ih _ y (by rw [swp_size]; exact hn) (hP.swp hj (by omega)) (by rw [swp_size]; omega) (by rw [swp_size]; exact hs) hi h
    · rw [if_neg (by omega)]
      rw [if_neg (by simp; omega)] at h
      exact h

theorem insInner_size (a : Nat) : ∀ (j : Nat) (d : Array Int), (insInner lt a j d).size = d.size
  | 0, d => rfl
  | j + 1, d => by
    unfold insInner
    split
    · rw [insInner_size a j, swp_size]
    · rfl

theorem insInner_all (a : Nat) : ∀ (j : Nat) (d : Array Int), j < d.size → AllA P d → AllA P (insInner lt a j d)
  | 0, d, _, h => h
  | j + 1, d, hj, h => by
    unfold insInner
    split
    · exact insInner_all a j _ (by rw [swp_size]; omega) (h.swp hj (by omega))
    · exact h

theorem k_ins1 (hc : Cmp cp lt P) (a0 : List Int) (a b : Nat) : ∀ (k i : Nat) (d : Array Int), b ≤ i + k → a0.length = d.size → AllA P d → b ≤ d.size → d.size ≤ 1000000 → i ≤ 1000000 →
    k_slices_insertionSortCmpFunc_int_1 a0 (a : Int) (b : Int) cp (Er d) (i : Int) = some (r_slices_insertionSortCmpFunc_int.enc (insOuter lt a b i d).toList) := by
  intro k
  induction k with
  | zero =>
    intro i d hk hn hP hb hs hi
    refine t_slices_insertionSortCmpFunc_int_1 _ _ _ cp _ _ ?_
    unfold insOuter
    rw [brn_dec, if_neg (by omega), if_neg (by omega)]
  | succ k ih =>
    intro i d hk hn hP hb hs hi
    refine t_slices_insertionSortCmpFunc_int_1 _ _ _ cp _ _ ?_
    unfold insOuter
    rw [brn_dec]
    by_cases hib : i < b
    · rw [if_pos (by omega), if_pos hib]
      refine k_ins2 hc a0 a b i i d _ hn hP (by omega) hs hi ?_
      exact ih (i + 1) _ (by omega) (by rw [insInner_size]; exact hn) (insInner_all a i d (by omega) hP) (by rw [insInner_size]; exact hb) (by rw [insInner_size]; exact hs) (by omega)
    · rw [if_neg (by omega), if_neg hib]

noncomputable abbrev mA (d : Array Int) : Mem := [(1000, ⟨1, ty_i64_2, Er d, false⟩)]
noncomputable abbrev rA (d : Array Int) : AV := .row 1000 1 0 (List.length (Er d))

theorem c_insertion (hc : Cmp cp lt P) (d : Array Int) (a b : Nat) (hP : AllA P d) (hab : a ≤ b) (hb : b ≤ d.size) (hs : d.size ≤ 100000) :
    cw f_slices_insertionSortCmpFunc_int [rA d, I (a : Int), I (b : Int), .fn f_severity_Rank_1 [.fa 2 (List.map dGRatio.enc cp)]] (mA d) = some (r_slices_insertionSortCmpFunc_int.enc (insertionSort lt d a b).toList) := by
  refine e_slices_insertionSortCmpFunc_int d.toList _ _ cp ?_
  have e : w64 ((a : Int) + 1) = ((a + 1 : Nat) : Int) := by rw [w64_id (by omega) (by omega)]; omega
  rw [e]
  exact k_ins1 hc d.toList a b b (a + 1) d (by omega) (by simp) hP hb (by omega) (by omega)

/-! ## the heap -/

theorem siftDown_all (hi first : Nat) : ∀ (k root : Nat) (d : Array Int), hi ≤ root + k → first + hi ≤ d.size → AllA P d → AllA P (siftDown lt hi first root d) ∧ (siftDown lt hi first root d).size = d.size := by
  intro k
  induction k with
  | zero =>
    intro root d hk hs h
    unfold siftDown
    rw [dif_pos (by omega)]
    exact ⟨h, rfl⟩
  | succ k ih =>
    intro root d hk hs h
    unfold siftDown
    split
    · exact ⟨h, rfl⟩
    · rename_i h1
      split
      · split
        · exact ⟨h, rfl⟩
        · split
          · rename_i h2
            have := ih (2 * root + 2) (swp d (first + root) (first + (2 * root + 2))) (by omega) (by rw [swp_size]; exact hs) (h.swp (by omega) (by omega))
            rw [swp_size] at this
            exact this
          · exact ⟨h, rfl⟩
      · split
        · exact ⟨h, rfl⟩
        · have := ih (2 * root + 1) (swp d (first + root) (first + (2 * root + 1))) (by omega) (by rw [swp_size]; exact hs) (h.swp (by omega) (by omega))
          rw [swp_size] at this
          exact this

theorem k_sift (hc : Cmp cp lt P) (a0 : List Int) (hi first : Nat) : ∀ (k root : Nat) (d : Array Int), hi ≤ root + k → first + hi ≤ d.size → a0.length = d.size → AllA P d → d.size ≤ 100000 → root ≤ 100000 →
    k_slices_siftDownCmpFunc_int_1 a0 (hi : Int) (first : Int) cp (Er d) (root : Int) = some (r_slices_siftDownCmpFunc_int.enc (siftDown lt hi first root d).toList) := by
  intro k
  induction k with
  | zero =>
    intro root d hk hs hn hP hsz hr
    refine t_slices_siftDownCmpFunc_int_1 _ _ _ cp _ _ ?_
    unfold siftDown
    rw [w64_id (n := 2 * (root : Int)) (by omega) (by omega), w64_id (n := 2 * (root : Int) + 1) (by omega) (by omega), brn_dec, if_pos (by omega), dif_pos (by omega)]
  | succ k ih =>
    intro root d hk hs hn hP hsz hr
    refine t_slices_siftDownCmpFunc_int_1 _ _ _ cp _ _ ?_
    unfold siftDown
    have e1 : w64 (w64 (2 * (root : Int)) + 1) = ((2 * root + 1 : Nat) : Int) := by rw [w64_id (n := 2 * (root : Int)) (by omega) (by omega), w64_id (by omega) (by omega)]; omega
    have e2 : w64 (((2 * root + 1 : Nat) : Int) + 1) = ((2 * root + 2 : Nat) : Int) := by rw [w64_id (by omega) (by omega)]; omega
    have e3 : w64 ((first : Int) + ((2 * root + 1 : Nat) : Int)) = ((first + (2 * root + 1) : Nat) : Int) := by rw [w64_id (by omega) (by omega)]; omega
    have e4 : w64 (((first + (2 * root + 1) : Nat) : Int) + 1) = ((first + (2 * root + 1) + 1 : Nat) : Int) := by rw [w64_id (by omega) (by omega)]; omega
    have e5 : w64 ((first : Int) + (root : Int)) = ((first + root : Nat) : Int) := by rw [w64_id (by omega) (by omega)]; omega
    have e6 : w64 ((first : Int) + ((2 * root + 2 : Nat) : Int)) = ((first + (2 * root + 2) : Nat) : Int) := by rw [w64_id (by omega) (by omega)]; omega
    rw [e1, e2, e3, e4, brn_dec, List.length_map]
    by_cases h1 : 2 * root + 1 ≥ hi
    · rw [if_pos (by omega), dif_pos h1]
    · rw [if_neg (by omega), dif_neg h1, brn_dec]
      -- the greater child is the first
      have low : k_slices_siftDownCmpFunc_int_1005v1 a0 (hi : Int) (first : Int) cp (Er d) (root : Int) = some (r_slices_siftDownCmpFunc_int.enc (if (!lt d[first + root]! d[first + (2 * root + 1)]!) = true then d else siftDown lt hi first (2 * root + 1) (swp d (first + root) (first + (2 * root + 1)))).toList) := by
        refine t_slices_siftDownCmpFunc_int_1005v1 _ _ _ cp _ _ ?_
        rw [e1, e3, e5, List.length_map, rdA hn (by omega), rdA hn (by omega), hc.stepN (hP _ (by omega)) (hP _ (by omega))]
        cases hl : lt d[first + root]! d[first + (2 * root + 1)]! with
        | false => rw [brn_false, if_pos (by simp)]
        | true =>
          rw [brn_true, if_neg (by simp), rdA hn (by omega), rdA hn (by omega), rdA hn (by omega), rdS hn (by omega), swpE]
          exact ih (2 * root + 1) _ (by omega) (by rw [swp_size]; exact hs) (by rw [swp_size]; exact hn) (hP.swp (by omega) (by omega)) (by rw [swp_size]; exact hsz) (by omega)
      by_cases h2 : 2 * root + 1 + 1 < hi
      · rw [if_pos (by omega), rdA hn (by omega), rdA hn (by omega), hc.step (hP _ (by omega)) (hP _ (by omega))]
        cases hl : lt d[first + (2 * root + 1)]! d[first + (2 * root + 1) + 1]! with
        | false =>
          rw [brn_false, if_neg (by simp)]
          exact low
        | true =>
          rw [brn_true, if_pos (by simpa using h2)]
          refine t_slices_siftDownCmpFunc_int_1005 _ _ _ cp _ _ ?_
          rw [e1, e2, e5, e6, List.length_map, rdA hn (by omega), rdA hn (by omega), hc.stepN (hP _ (by omega)) (hP _ (by omega))]
          cases hl2 : lt d[first + root]! d[first + (2 * root + 2)]! with
          | false => rw [brn_false, if_pos (by simp)]
          | true =>
            rw [brn_true, if_neg (by simp), dif_pos (by omega), rdA hn (by omega), rdA hn (by omega), rdA hn (by omega), rdS hn (by omega), swpE]
            exact ih (2 * root + 2) _ (by omega) (by rw [swp_size]; exact hs) (by rw [swp_size]; exact hn) (hP.swp (by omega) (by omega)) (by rw [swp_size]; exact hsz) (by omega)
      · rw [if_neg (by omega), if_neg (by simp; omega)]
        exact low

theorem c_sift (hc : Cmp cp lt P) (d : Array Int) (root hi first : Nat) (hs : first + hi ≤ d.size) (hP : AllA P d) (hsz : d.size ≤ 100000) (hr : root ≤ 100000) :
    cw f_slices_siftDownCmpFunc_int [rA d, I (root : Int), I (hi : Int), I (first : Int), .fn f_severity_Rank_1 [.fa 2 (List.map dGRatio.enc cp)]] (mA d) = some (r_slices_siftDownCmpFunc_int.enc (siftDown lt hi first root d).toList) :=
  e_slices_siftDownCmpFunc_int d.toList _ _ _ cp (k_sift hc d.toList hi first hi root d (by omega) hs (by simp) hP hsz hr)

/-- the row as it stands, whatever list told its length -/
theorem row_eq {a0 : List Int} {d : Array Int} (h : a0.length = d.size) : AV.row 1000 1 0 ((List.map dI_i64.enc a0).length) = rA d := by
  show AV.row 1000 1 0 _ = AV.row 1000 1 0 _
  rw [List.length_map, lenE, h]

theorem k_heap2 (hc : Cmp cp lt P) (a0 : List Int) (first : Nat) : ∀ (k : Nat) (d : Array Int), first + k ≤ d.size → a0.length = d.size → AllA P d → d.size ≤ 100000 →
    k_slices_heapSortCmpFunc_int_2 a0 (first : Int) cp (Er d) ((k : Int) - 1) = some (r_slices_heapSortCmpFunc_int.enc (heapPop lt first k d).toList) := by
  intro k
  induction k with
  | zero =>
    intro d hs hn hP hsz
    refine t_slices_heapSortCmpFunc_int_2 _ _ cp _ _ ?_
    rw [brn_dec, if_neg (by omega)]
    rfl
  | succ k ih =>
    intro d hs hn hP hsz
    refine t_slices_heapSortCmpFunc_int_2 _ _ cp _ _ ?_
    have e0 : ((k + 1 : Nat) : Int) - 1 = (k : Int) := by omega
    have e1 : w64 ((first : Int) + (k : Int)) = ((first + k : Nat) : Int) := by rw [w64_id (by omega) (by omega)]; omega
    have e2 : w64 ((k : Int) - 1) = (k : Int) - 1 := w64_id (by omega) (by omega)
    have hP' := hP.swp (i := first) (j := first + k) (by omega) (by omega)
    have hsi := siftDown_all (lt := lt) k first k 0 (swp d first (first + k)) (by omega) (by rw [swp_size]; omega) hP'
    rw [e0, brn_dec, if_pos (by omega), e1, e2, List.length_map, rdA hn (by omega), rdA hn (by omega), rdA hn (by omega), rdS hn (by omega), swpE]
    have hrow : AV.row 1000 1 0 a0.length = rA (swp d first (first + k)) := by
      have := row_eq (a0 := a0) (d := swp d first (first + k)) (by rw [swp_size]; exact hn)
      rwa [List.length_map] at this
    have hcs : cw f_slices_siftDownCmpFunc_int [rA (swp d first (first + k)), I 0, I (k : Int), I (first : Int), .fn f_severity_Rank_1 [.fa 2 (List.map dGRatio.enc cp)]] (mA (swp d first (first + k))) = some (r_slices_siftDownCmpFunc_int.enc (siftDown lt k first 0 (swp d first (first + k))).toList) :=
      c_sift hc _ 0 k first (by rw [swp_size]; omega) hP' (by rw [swp_size]; exact hsz) (by omega)
    rw [hrow, callD_of hcs]
    have h3 : (siftDown lt k first 0 (swp d first (first + k))).size = d.size := by rw [hsi.2, swp_size]
    exact ih _ (by rw [h3]; omega) (by rw [h3]; exact hn) hsi.1 (by rw [h3]; exact hsz)

theorem k_heap1 (hc : Cmp cp lt P) (a0 : List Int) (a b : Nat) (hab : a ≤ b) : ∀ (k : Nat) (d : Array Int), k ≤ 100000 → b ≤ d.size → a0.length = d.size → AllA P d → d.size ≤ 100000 →
    k_slices_heapSortCmpFunc_int_1 a0 (a : Int) (b : Int) cp (Er d) ((k : Int) - 1) = some (r_slices_heapSortCmpFunc_int.enc (heapPop lt a (b - a) (heapBuild lt (b - a) a k d)).toList) := by
  intro k
  induction k with
  | zero =>
    intro d hk hb hn hP hsz
    refine t_slices_heapSortCmpFunc_int_1 _ _ _ cp _ _ ?_
    have e : w64 (w64 ((b : Int) - (a : Int)) - 1) = ((b - a : Nat) : Int) - 1 := by rw [w64_id (n := (b : Int) - a) (by omega) (by omega), w64_id (by omega) (by omega)]; omega
    rw [brn_dec, if_neg (by omega), e]
    exact k_heap2 hc a0 a (b - a) d (by omega) hn hP hsz
  | succ k ih =>
    intro d hk hb hn hP hsz
    refine t_slices_heapSortCmpFunc_int_1 _ _ _ cp _ _ ?_
    have e0 : ((k + 1 : Nat) : Int) - 1 = (k : Int) := by omega
    have e1 : w64 ((b : Int) - (a : Int)) = ((b - a : Nat) : Int) := by rw [w64_id (by omega) (by omega)]; omega
    have e2 : w64 ((k : Int) - 1) = (k : Int) - 1 := w64_id (by omega) (by omega)
    have hsi := siftDown_all (lt := lt) (b - a) a (b - a) k d (by omega) (by omega) hP
    rw [e0, brn_dec, if_pos (by omega), e1, e2, row_eq hn, callD_of (c_sift hc d k (b - a) a (by omega) hP hsz (by omega))]
    exact ih _ (by omega) (by rw [hsi.2]; exact hb) (by rw [hsi.2]; exact hn) hsi.1 (by rw [hsi.2]; exact hsz)

theorem c_heap (hc : Cmp cp lt P) (d : Array Int) (a b : Nat) (hP : AllA P d) (hab : a < b) (hb : b ≤ d.size) (hs : d.size ≤ 100000) :
    cw f_slices_heapSortCmpFunc_int [rA d, I (a : Int), I (b : Int), .fn f_severity_Rank_1 [.fa 2 (List.map dGRatio.enc cp)]] (mA d) = some (r_slices_heapSortCmpFunc_int.enc (heapSort lt d a b).toList) := by
  refine e_slices_heapSortCmpFunc_int d.toList _ _ cp ?_
  have e0 : w64 (w64 ((b : Int) - (a : Int)) - 1) = ((b - a - 1 : Nat) : Int) := by rw [w64_id (n := (b : Int) - a) (by omega) (by omega), w64_id (by omega) (by omega)]; omega
  have e1 : (((b - a - 1 : Nat) : Int)).tdiv 2 = (((b - a - 1) / 2 : Nat) : Int) := rfl
  have e2 : w64 (((b - a - 1) / 2 : Nat) : Int) = (((b - a - 1) / 2 + 1 : Nat) : Int) - 1 := by rw [w64_id (by omega) (by omega)]; omega
  rw [chk_pos (by omega), e0, e1, e2]
  exact k_heap1 hc d.toList a b (by omega) ((b - a - 1) / 2 + 1) d (by omega) hb (by simp) hP hs

/-! ## the range reversed -/

theorem k_reverse (a0 : List Int) : ∀ (k i j : Nat) (d : Array Int), j ≤ i + k → j < d.size ∨ j ≤ i → a0.length = d.size → d.size ≤ 100000 → i ≤ 100000 →
    k_slices_reverseRangeCmpFunc_int_1 a0 (Er d) (i : Int) (j : Int) = some (r_slices_reverseRangeCmpFunc_int.enc (reverseLoop i j d).toList) := by
  intro k
  induction k with
  | zero =>
    intro i j d hk hj hn hs hi
    refine t_slices_reverseRangeCmpFunc_int_1 _ _ _ _ ?_
    unfold reverseLoop
    rw [brn_dec, if_neg (by omega), if_neg (by omega)]
  | succ k ih =>
    intro i j d hk hj hn hs hi
    refine t_slices_reverseRangeCmpFunc_int_1 _ _ _ _ ?_
    unfold reverseLoop
    rw [brn_dec]
    by_cases hij : i < j
    · have e1 : w64 ((i : Int) + 1) = ((i + 1 : Nat) : Int) := by rw [w64_id (by omega) (by omega)]; omega
      have e2 : w64 ((j : Int) - 1) = ((j - 1 : Nat) : Int) := by rw [w64_id (by omega) (by omega)]; omega
      rw [if_pos (by omega), if_pos hij, List.length_map, rdA hn (by omega), rdA hn (by omega), rdA hn (by omega), rdS hn (by omega), swpE, e1, e2]
      exact ih (i + 1) (j - 1) _ (by omega) (by rw [swp_size]; omega) (by rw [swp_size]; exact hn) (by rw [swp_size]; exact hs) (by omega)
    · rw [if_neg (by omega), if_neg hij]

theorem c_reverse (d : Array Int) (a b : Nat) (hab : a < b) (hb : b ≤ d.size) (hs : d.size ≤ 100000) :
    cw f_slices_reverseRangeCmpFunc_int [rA d, I (a : Int), I (b : Int), .fn f_severity_Rank_1 [.fa 2 (List.map dGRatio.enc cp)]] (mA d) = some (r_slices_reverseRangeCmpFunc_int.enc (reverseRange d a b).toList) := by
  refine e_slices_reverseRangeCmpFunc_int d.toList _ _ cp ?_
  have e : w64 ((b : Int) - 1) = ((b - 1 : Nat) : Int) := by rw [w64_id (by omega) (by omega)]; omega
  rw [e]
  exact k_reverse d.toList b a (b - 1) d (by omega) (by omega) (by simp) hs (by omega)
end
end Go.Proofs.Ytohpjbokhcifbaa

namespace Go.Proofs.Ytohpjbokhcifbaa
open Go.Ab Go.Sort
set_option linter.unusedVariables false

section
variable {cp : List GRatio} {lt : Int → Int → Bool} {P : Int → Prop}

theorem up1 {i : Nat} (h : i ≤ 1000000) : w64 ((i : Int) + 1) = ((i + 1 : Nat) : Int) := by rw [w64_id (by omega) (by omega)]; omega
theorem dn1 {i : Nat} (h0 : 1 ≤ i) (h : i ≤ 1000000) : w64 ((i : Int) - 1) = ((i - 1 : Nat) : Int) := by rw [w64_id (by omega) (by omega)]; omega

theorem scanUp_step (p : Int → Bool) (d : Array Int) (j i : Nat) : scanUp p d j i = if (decide (i ≤ j) && p d[i]!) = true then scanUp p d j (i + 1) else i := by
  conv => lhs; unfold scanUp

theorem scanDown_step (p : Int → Bool) (d : Array Int) (i : Nat) {j : Nat} (hj : 1 ≤ j) : scanDown p d i j = if (decide (i ≤ j) && p d[j]!) = true then scanDown p d i (j - 1) else j := by
  obtain ⟨k, rfl⟩ : ∃ k, j = k + 1 := ⟨j - 1, by omega⟩
  rfl

theorem scanUp_bd (p : Int → Bool) (d : Array Int) (j : Nat) : ∀ (k i : Nat), j ≤ i + k → i ≤ j + 1 → scanUp p d j i ≤ j + 1
  | 0, i, hk, hi => by
    rw [scanUp_step]
    split
    · rw [scanUp_step]
      rename_i h
      simp only [Bool.and_eq_true, decide_eq_true_eq] at h
      rw [if_neg (by simp; omega)]
      omega
    · exact hi
  | k + 1, i, hk, hi => by
    rw [scanUp_step]
    split
    · rename_i h
      simp only [Bool.and_eq_true, decide_eq_true_eq] at h
      exact scanUp_bd p d j k (i + 1) (by omega) (by omega)
    · exact hi

theorem scanDown_bd (p : Int → Bool) (d : Array Int) (i : Nat) (hi : 1 ≤ i) : ∀ (j : Nat), i ≤ j + 1 → i ≤ scanDown p d i j + 1
  | 0, h => by simpa [scanDown] using h
  | j + 1, h => by
    unfold scanDown
    split
    · rename_i h1
      simp only [Bool.and_eq_true, decide_eq_true_eq] at h1
      exact scanDown_bd p d i hi j (by omega)
    · omega

theorem scanUp_stop (p : Int → Bool) (d : Array Int) (j : Nat) : ∀ (k i : Nat), j + 1 ≤ i + k → scanUp p d j i ≤ j → p d[scanUp p d j i]! = false
  | 0, i, hk, h => by
    rw [scanUp_step, if_neg (by simp; omega)] at h
    omega
  | k + 1, i, hk, h => by
    rw [scanUp_step] at h ⊢
    split
    · rename_i h1
      rw [if_pos h1] at h
      exact scanUp_stop p d j k (i + 1) (by omega) h
    · rename_i h1
      rw [if_neg h1] at h
      simp only [Bool.and_eq_true, decide_eq_true_eq, not_and, Bool.not_eq_true] at h1
      exact h1 h

theorem scanDown_stop (q : Int → Bool) (d : Array Int) (i : Nat) (hi : 1 ≤ i) : ∀ (j : Nat), i ≤ scanDown q d i j → q d[scanDown q d i j]! = false
  | 0, h => by simp [scanDown] at h; omega
  | j + 1, h => by
    unfold scanDown at h ⊢
    split
    · rename_i h1
      rw [if_pos h1] at h
      exact scanDown_stop q d i hi j h
    · rename_i h1
      rw [if_neg h1] at h
      simp only [Bool.and_eq_true, decide_eq_true_eq, not_and, Bool.not_eq_true] at h1
      exact h1 h

/-! ## the loop of the partition -/

noncomputable abbrev rPart (m : Nat) (b : Bool) (d : Array Int) : Option (AV × Mem) := some (r_slices_partitionCmpFunc_int.enc ((( m : Int), b), d.toList))

theorem k_part4 (hc : Cmp cp lt P) (a0 : List Int) (a : Nat) (d : Array Int) (hn : a0.length = d.size) (hP : AllA P d) (hs : d.size ≤ 100000) (ha : a < d.size) (j : Nat) (hj : j < d.size) (y : AV × Mem) :
    ∀ (k i : Nat), j + 1 ≤ i + k → i ≤ 100001 →
      k_slices_partitionCmpFunc_int_5 a0 (a : Int) cp (Er d) (j : Int) ((scanUp (fun x => lt x d[a]!) d j i : Nat) : Int) = some y →
      k_slices_partitionCmpFunc_int_4 a0 (a : Int) cp (Er d) (j : Int) (i : Int) = some y := by
  intro k
  induction k with
  | zero =>
    intro i hk hi h
    refine t_slices_partitionCmpFunc_int_4 _ _ cp _ _ _ ?_
    rw [scanUp_step, if_neg (by simp; omega)] at h
    rw [brn_dec, if_neg (by omega)]
    exact h
  | succ k ih =>
    intro i hk hi h
    refine t_slices_partitionCmpFunc_int_4 _ _ cp _ _ _ ?_
    rw [scanUp_step] at h
    rw [brn_dec, up1 (by omega), List.length_map]
    by_cases hij : i ≤ j
    · rw [if_pos (by omega), rdA hn (by omega), rdA hn ha, hc.step (hP _ (by omega)) (hP _ ha)]
      cases hl : lt d[i]! d[a]! with
      | true =>
        rw [hl, if_pos (by simpa using hij)] at h
        rw [brn_true]
        exact ih (i + 1) (by omega) (by omega) h
      | false =>
        rw [hl, if_neg (by simp)] at h
        rw [brn_false]
        exact h
    · rw [if_neg (by simp; omega)] at h
      rw [if_neg (by omega)]
      exact h

theorem k_part5 (hc : Cmp cp lt P) (a0 : List Int) (a : Nat) (d : Array Int) (hn : a0.length = d.size) (hP : AllA P d) (hs : d.size ≤ 100000) (ha : a < d.size) (i : Nat) (hi : 1 ≤ i) (hi2 : i ≤ 100001) (y : AV × Mem) :
    ∀ (j : Nat), j < d.size → i ≤ j + 1 →
      k_slices_partitionCmpFunc_int_1017 a0 (a : Int) cp (Er d) (i : Int) ((scanDown (fun x => !lt x d[a]!) d i j : Nat) : Int) = some y →
      k_slices_partitionCmpFunc_int_5v1 a0 (a : Int) cp (Er d) (i : Int) (j : Int) = some y := by
  intro j
  induction j with
  | zero =>
    intro hj hij h
    refine t_slices_partitionCmpFunc_int_5v1 _ _ cp _ _ _ ?_
    rw [brn_dec, if_neg (by omega)]
    exact h
  | succ j ih =>
    intro hj hij h
    refine t_slices_partitionCmpFunc_int_5v1 _ _ cp _ _ _ ?_
    rw [scanDown_step _ _ _ (by omega)] at h
    rw [brn_dec, dn1 (by omega) (by omega), List.length_map]
    by_cases hle : i ≤ j + 1
    · rw [if_pos (by omega), rdA hn (by omega), rdA hn ha, hc.stepN (hP _ (by omega)) (hP _ ha)]
      cases hl : lt d[j + 1]! d[a]! with
      | false =>
        rw [hl, if_pos (by simpa using hle)] at h
        rw [brn_false]
        by_cases h0 : i ≤ j + 1 - 1 + 1
        · exact ih (by omega) h0 h
        · omega
      | true =>
        rw [hl, if_neg (by simp)] at h
        rw [brn_true]
        exact h
    · rw [if_neg (by simp; omega)] at h
      rw [if_neg (by omega)]
      exact h

theorem k_part5' (hc : Cmp cp lt P) (a0 : List Int) (a : Nat) (d : Array Int) (hn : a0.length = d.size) (hP : AllA P d) (hs : d.size ≤ 100000) (ha : a < d.size) (i : Nat) (hi : 1 ≤ i) (hi2 : i ≤ 100001) (y : AV × Mem)
    (j : Nat) (hj : j < d.size) (hij : i ≤ j + 1) (h : k_slices_partitionCmpFunc_int_1017 a0 (a : Int) cp (Er d) (i : Int) ((scanDown (fun x => !lt x d[a]!) d i j : Nat) : Int) = some y) :
      k_slices_partitionCmpFunc_int_5 a0 (a : Int) cp (Er d) (j : Int) (i : Int) = some y := by
  refine t_slices_partitionCmpFunc_int_5 _ _ cp _ _ _ ?_
  by_cases h0 : j = 0
  · subst h0
    rw [brn_dec, if_neg (by omega)]
    exact h
  · rw [scanDown_step _ _ _ (by omega)] at h
    rw [brn_dec, dn1 (by omega) (by omega), List.length_map]
    by_cases hle : i ≤ j
    · rw [if_pos (by omega), rdA hn (by omega), rdA hn ha, hc.stepN (hP _ (by omega)) (hP _ ha)]
      cases hl : lt d[j]! d[a]! with
      | false =>
        rw [hl, if_pos (by simpa using hle)] at h
        rw [brn_false]
        exact k_part5 hc a0 a d hn hP hs ha i hi hi2 y (j - 1) (by omega) (by omega) h
      | true =>
        rw [hl, if_neg (by simp)] at h
        rw [brn_true]
        exact h
    · rw [if_neg (by simp; omega)] at h
      rw [if_neg (by omega)]
      exact h

theorem k_partLoop (hc : Cmp cp lt P) (a0 : List Int) (a : Nat) : ∀ (n i j : Nat) (d : Array Int), j + 1 - i ≤ n → a < i → i ≤ j + 1 → j < d.size → a0.length = d.size → AllA P d → d.size ≤ 100000 →
    k_slices_partitionCmpFunc_int_3 a0 (a : Int) cp (Er d) (i : Int) (j : Int) = rPart (partLoop lt a i j d).1 false (swp (partLoop lt a i j d).2 (partLoop lt a i j d).1 a) := by
  intro n
  induction n with
  | zero =>
    intro i j d hn hai hij hj hl hP hs
    refine t_slices_partitionCmpFunc_int_3 _ _ cp _ _ _ ?_
    refine k_part4 hc a0 a d hl hP hs (by omega) j hj _ (j + 1) i (by omega) (by omega) ?_
    have hu : scanUp (fun x => lt x d[a]!) d j i = i := by rw [scanUp_step, if_neg (by simp; omega)]
    rw [hu]
    refine k_part5' hc a0 a d hl hP hs (by omega) i (by omega) (by omega) _ j hj hij ?_
    have hd : scanDown (fun x => !lt x d[a]!) d i j = j := by
      by_cases h0 : j = 0
      · subst h0; rfl
      · rw [scanDown_step _ _ _ (by omega), if_neg (by simp; omega)]
    rw [hd]
    refine t_slices_partitionCmpFunc_int_1017 _ _ cp _ _ _ ?_
    rw [partLoop_eq]
    simp only [hu, hd]
    rw [if_pos (show i > j by omega), brn_dec, if_pos (by omega), List.length_map, rdA hl (by omega), rdA hl (by omega), rdA hl (by omega), rdS hl (by omega), swpE]
  | succ n ih =>
    intro i j d hn hai hij hj hl hP hs
    refine t_slices_partitionCmpFunc_int_3 _ _ cp _ _ _ ?_
    refine k_part4 hc a0 a d hl hP hs (by omega) j hj _ (j + 1) i (by omega) (by omega) ?_
    have u1 := scanUp_ge (fun x => lt x d[a]!) d j i
    have u2 := scanUp_bd (fun x => lt x d[a]!) d j (j + 1) i (by omega) hij
    refine k_part5' hc a0 a d hl hP hs (by omega) _ (by omega) (by omega) _ j hj (by omega) ?_
    have d1 := scanDown_le (fun x => !lt x d[a]!) d (scanUp (fun x => lt x d[a]!) d j i) j
    have d2 := scanDown_bd (fun x => !lt x d[a]!) d (scanUp (fun x => lt x d[a]!) d j i) (by omega) j (by omega)
    have u3 := scanUp_stop (fun x => lt x d[a]!) d j (j + 1) i (by omega)
    have d3 := scanDown_stop (fun x => !lt x d[a]!) d (scanUp (fun x => lt x d[a]!) d j i) (by omega) j
    refine t_slices_partitionCmpFunc_int_1017 _ _ cp _ _ _ ?_
    rw [partLoop_eq]
    generalize scanUp (fun x => lt x d[a]!) d j i = i2 at *
    generalize scanDown (fun x => !lt x d[a]!) d i2 j = j2 at *
    rw [brn_dec]
    by_cases hgt : i2 > j2
    · rw [if_pos (by omega)]
      simp only [hgt, if_true]
      rw [List.length_map, rdA hl (by omega), rdA hl (by omega), rdA hl (by omega), rdS hl (by omega), swpE]
    · rw [if_neg (by omega)]
      simp only [hgt, if_false]
      rw [List.length_map, rdA hl (by omega), rdA hl (by omega), rdA hl (by omega), rdS hl (by omega), swpE, up1 (by omega), dn1 (by omega) (by omega)]
      by_cases heq : i2 = j2
      · exfalso
        have w1 := u3 (by omega)
        have w2 := d3 (by omega)
        rw [heq] at w1
        rw [w1] at w2
        cases w2
      · exact ih (i2 + 1) (j2 - 1) _ (by omega) (by omega) (by omega) (by rw [swp_size]; omega) (by rw [swp_size]; exact hl) (hP.swp (by omega) (by omega)) (by rw [swp_size]; exact hs)

/-! ## the partition -/

theorem k_part1 (hc : Cmp cp lt P) (d0 d : Array Int) (a b pivot : Nat) (c0 c1 c2 c3 : Int) (hrow : List.set (List.set (Er d0) (0 + ((a : Nat) : Int).toNat) (dI_i64.enc c0)) (0 + ((pivot : Nat) : Int).toNat) (dI_i64.enc c1) = Er d)
    (hn : d0.toList.length = d.size) (hP : AllA P d) (hs : d.size ≤ 100000) (hab : a < b) (hb : b ≤ d.size) (y : AV × Mem) :
    ∀ (k i : Nat), b ≤ i + k → a < i → i ≤ 100001 →
      k_slices_partitionCmpFunc_int_2 d0.toList (a : Int) (b : Int) (pivot : Int) cp c0 c1 c2 c3 ((scanUp (fun x => lt x d[a]!) d (b - 1) i : Nat) : Int) = some y →
      k_slices_partitionCmpFunc_int_1 d0.toList (a : Int) (b : Int) (pivot : Int) cp c0 c1 c2 c3 (i : Int) = some y := by
  have eb : w64 ((b : Int) - 1) = ((b - 1 : Nat) : Int) := dn1 (by omega) (by omega)
  intro k
  induction k with
  | zero =>
    intro i hk hai hi h
    refine t_slices_partitionCmpFunc_int_1 _ _ _ _ cp _ _ _ _ _ ?_
    rw [scanUp_step, if_neg (by simp; omega)] at h
    rw [brn_dec, eb, if_neg (by omega)]
    exact h
  | succ k ih =>
    intro i hk hai hi h
    refine t_slices_partitionCmpFunc_int_1 _ _ _ _ cp _ _ _ _ _ ?_
    rw [scanUp_step] at h
    rw [brn_dec, eb, up1 (by omega), List.length_map, hrow]
    by_cases hij : i ≤ b - 1
    · rw [if_pos (by omega), rdA hn (by omega), rdA hn (by omega), hc.step (hP _ (by omega)) (hP _ (by omega))]
      cases hl : lt d[i]! d[a]! with
      | true =>
        rw [hl, if_pos (by simpa using hij)] at h
        rw [brn_true]
        exact ih (i + 1) (by omega) (by omega) (by omega) h
      | false =>
        rw [hl, if_neg (by simp)] at h
        rw [brn_false]
        exact h
    · rw [if_neg (by simp; omega)] at h
      rw [if_neg (by omega)]
      exact h

theorem k_part2 (hc : Cmp cp lt P) (d0 d : Array Int) (a b pivot : Nat) (c0 c1 c2 c3 : Int) (hrow : List.set (List.set (Er d0) (0 + ((a : Nat) : Int).toNat) (dI_i64.enc c0)) (0 + ((pivot : Nat) : Int).toNat) (dI_i64.enc c1) = Er d)
    (hn : d0.toList.length = d.size) (hP : AllA P d) (hs : d.size ≤ 100000) (ha : a < d.size) (i : Nat) (hi : 1 ≤ i) (hi2 : i ≤ 100001) (y : AV × Mem) :
    ∀ (j : Nat), j < d.size → i ≤ j + 1 →
      k_slices_partitionCmpFunc_int_1007 d0.toList (a : Int) (b : Int) (pivot : Int) cp c0 c1 c2 c3 (i : Int) ((scanDown (fun x => !lt x d[a]!) d i j : Nat) : Int) = some y →
      k_slices_partitionCmpFunc_int_2v1 d0.toList (a : Int) (b : Int) (pivot : Int) cp c0 c1 c2 c3 (i : Int) (j : Int) = some y := by
  intro j
  induction j with
  | zero =>
    intro hj hij h
    refine t_slices_partitionCmpFunc_int_2v1 _ _ _ _ cp _ _ _ _ _ _ ?_
    rw [brn_dec, if_neg (by omega)]
    exact h
  | succ j ih =>
    intro hj hij h
    refine t_slices_partitionCmpFunc_int_2v1 _ _ _ _ cp _ _ _ _ _ _ ?_
    rw [scanDown_step _ _ _ (by omega)] at h
    rw [brn_dec, dn1 (by omega) (by omega), List.length_map, hrow]
    by_cases hle : i ≤ j + 1
    · rw [if_pos (by omega), rdA hn (by omega), rdA hn ha, hc.stepN (hP _ (by omega)) (hP _ ha)]
      cases hl : lt d[j + 1]! d[a]! with
      | false =>
        rw [hl, if_pos (by simpa using hle)] at h
        rw [brn_false]
        exact ih (by omega) (by omega) h
      | true =>
        rw [hl, if_neg (by simp)] at h
        rw [brn_true]
        exact h
    · rw [if_neg (by simp; omega)] at h
      rw [if_neg (by omega)]
      exact h

theorem c_partition (hc : Cmp cp lt P) (d0 : Array Int) (a b pivot : Nat) (hP0 : AllA P d0) (ha : a ≤ pivot) (hp : pivot < b) (hb : b ≤ d0.size) (hs0 : d0.size ≤ 100000) (hab : a + 1 < b) :
    ∃ flag : Bool, cw f_slices_partitionCmpFunc_int [rA d0, I (a : Int), I (b : Int), I (pivot : Int), .fn f_severity_Rank_1 [.fa 2 (List.map dGRatio.enc cp)]] (mA d0) = rPart (partition lt d0 a b pivot).1 flag (partition lt d0 a b pivot).2.2 := by
  have hn0 : d0.toList.length = d0.size := by simp
  rw [partition_fst, partition_arr]
  have hrow := swpE d0 a pivot
  have hP := hP0.swp (i := a) (j := pivot) (by omega) (by omega)
  have hsz := swp_size d0 a pivot
  generalize hd : swp d0 a pivot = d at *
  have hn : d0.toList.length = d.size := by rw [hn0, hsz]
  have eb : w64 ((b : Int) - 1) = ((b - 1 : Nat) : Int) := dn1 (by omega) (by omega)
  have u1 := scanUp_ge (fun x => lt x d[a]!) d (b - 1) (a + 1)
  have u2 := scanUp_bd (fun x => lt x d[a]!) d (b - 1) b (a + 1) (by omega) (by omega)
  have u3 := scanUp_stop (fun x => lt x d[a]!) d (b - 1) b (a + 1) (by omega)
  rw [partLoop_eq]
  -- the first scan
  have head : ∀ y, k_slices_partitionCmpFunc_int_2 d0.toList (a : Int) (b : Int) (pivot : Int) cp d0[pivot]! d0[a]! d0[a]! (d0.setIfInBounds a d0[pivot]!)[pivot]! ((scanUp (fun x => lt x d[a]!) d (b - 1) (a + 1) : Nat) : Int) = some y →
      cw f_slices_partitionCmpFunc_int [rA d0, I (a : Int), I (b : Int), I (pivot : Int), .fn f_severity_Rank_1 [.fa 2 (List.map dGRatio.enc cp)]] (mA d0) = some y := by
    intro y h
    refine e_slices_partitionCmpFunc_int d0.toList _ _ _ cp ?_
    rw [List.length_map, rdA hn0 (by omega), rdA hn0 (by omega), rdA hn0 (by omega), rdS hn0 (by omega), up1 (by omega)]
    exact k_part1 hc d0 d a b pivot _ _ _ _ hrow hn hP (by omega) (by omega) (by omega) _ b (a + 1) (by omega) (by omega) (by omega) h
  generalize scanUp (fun x => lt x d[a]!) d (b - 1) (a + 1) = i at *
  have d1 := scanDown_le (fun x => !lt x d[a]!) d i (b - 1)
  have d2 := scanDown_bd (fun x => !lt x d[a]!) d i (by omega) (b - 1) (by omega)
  have d3 := scanDown_stop (fun x => !lt x d[a]!) d i (by omega) (b - 1)
  -- the second one
  have mid : ∀ y, k_slices_partitionCmpFunc_int_1007 d0.toList (a : Int) (b : Int) (pivot : Int) cp d0[pivot]! d0[a]! d0[a]! (d0.setIfInBounds a d0[pivot]!)[pivot]! (i : Int) ((scanDown (fun x => !lt x d[a]!) d i (b - 1) : Nat) : Int) = some y →
      k_slices_partitionCmpFunc_int_2 d0.toList (a : Int) (b : Int) (pivot : Int) cp d0[pivot]! d0[a]! d0[a]! (d0.setIfInBounds a d0[pivot]!)[pivot]! (i : Int) = some y := by
    intro y h
    refine t_slices_partitionCmpFunc_int_2 _ _ _ _ cp _ _ _ _ _ ?_
    rw [brn_dec, eb, hrow, List.length_map]
    rw [scanDown_step _ _ _ (by omega)] at h
    by_cases hle : i ≤ b - 1
    · rw [if_pos (by omega), rdA hn (by omega), rdA hn (by omega), hc.stepN (hP _ (by omega)) (hP _ (by omega)), dn1 (by omega) (by omega)]
      cases hl : lt d[b - 1]! d[a]! with
      | false =>
        rw [hl, if_pos (by simpa using hle)] at h
        rw [brn_false]
        exact k_part2 hc d0 d a b pivot _ _ _ _ hrow hn hP (by omega) (by omega) i (by omega) (by omega) _ (b - 1 - 1) (by omega) (by omega) h
      | true =>
        rw [hl, if_neg (by simp)] at h
        rw [brn_true]
        exact h
    · rw [if_neg (by simp; omega)] at h
      rw [if_neg (by omega)]
      exact h
  generalize scanDown (fun x => !lt x d[a]!) d i (b - 1) = j at *
  by_cases hgt : i > j
  · refine ⟨true, head _ (mid _ (t_slices_partitionCmpFunc_int_1007 _ _ _ _ cp _ _ _ _ _ _ ?_))⟩
    rw [brn_dec, hrow, List.length_map, if_pos (by omega), if_pos hgt, rdA hn (by omega), rdA hn (by omega), rdA hn (by omega), rdS hn (by omega), swpE]
  · refine ⟨false, head _ (mid _ (t_slices_partitionCmpFunc_int_1007 _ _ _ _ cp _ _ _ _ _ _ ?_))⟩
    have hne : i ≠ j := by
      intro heq
      have w1 := u3 (by omega)
      have w2 := d3 (by omega)
      rw [heq] at w1
      rw [w1] at w2
      cases w2
    rw [brn_dec, hrow, List.length_map, if_neg (by omega), if_neg hgt, rdA hn (by omega), rdA hn (by omega), rdA hn (by omega), rdS hn (by omega), swpE, up1 (by omega), dn1 (by omega) (by omega)]
    exact k_partLoop hc d0.toList a (j + 1) (i + 1) (j - 1) _ (by omega) (by omega) (by omega) (by rw [swp_size]; omega) (by rw [swp_size]; exact hn) (hP.swp (by omega) (by omega)) (by rw [swp_size]; omega)

/-! ## the partition into equal and greater ones -/

noncomputable abbrev rEq (m : Nat) (d : Array Int) : Option (AV × Mem) := some (r_slices_partitionEqualCmpFunc_int.enc ((m : Int), d.toList))

theorem k_eq2 (hc : Cmp cp lt P) (a0 : List Int) (a : Nat) (d : Array Int) (hn : a0.length = d.size) (hP : AllA P d) (hs : d.size ≤ 100000) (ha : a < d.size) (j : Nat) (hj : j < d.size) (y : AV × Mem) :
    ∀ (k i : Nat), j + 1 ≤ i + k → i ≤ 100001 →
      k_slices_partitionEqualCmpFunc_int_3 a0 (a : Int) cp (Er d) (j : Int) ((scanUp (fun x => !lt d[a]! x) d j i : Nat) : Int) = some y →
      k_slices_partitionEqualCmpFunc_int_2 a0 (a : Int) cp (Er d) (j : Int) (i : Int) = some y := by
  intro k
  induction k with
  | zero =>
    intro i hk hi h
    refine t_slices_partitionEqualCmpFunc_int_2 _ _ cp _ _ _ ?_
    rw [scanUp_step, if_neg (by simp; omega)] at h
    rw [brn_dec, if_neg (by omega)]
    exact h
  | succ k ih =>
    intro i hk hi h
    refine t_slices_partitionEqualCmpFunc_int_2 _ _ cp _ _ _ ?_
    rw [scanUp_step] at h
    rw [brn_dec, up1 (by omega), List.length_map]
    by_cases hij : i ≤ j
    · rw [if_pos (by omega), rdA hn ha, rdA hn (by omega), hc.stepN (hP _ ha) (hP _ (by omega))]
      cases hl : lt d[a]! d[i]! with
      | false =>
        rw [hl, if_pos (by simpa using hij)] at h
        rw [brn_false]
        exact ih (i + 1) (by omega) (by omega) h
      | true =>
        rw [hl, if_neg (by simp)] at h
        rw [brn_true]
        exact h
    · rw [if_neg (by simp; omega)] at h
      rw [if_neg (by omega)]
      exact h

theorem k_eq3 (hc : Cmp cp lt P) (a0 : List Int) (a : Nat) (d : Array Int) (hn : a0.length = d.size) (hP : AllA P d) (hs : d.size ≤ 100000) (ha : a < d.size) (i : Nat) (hi : 1 ≤ i) (hi2 : i ≤ 100001) (y : AV × Mem) :
    ∀ (j : Nat), j < d.size → i ≤ j + 1 →
      k_slices_partitionEqualCmpFunc_int_1007 a0 (a : Int) cp (Er d) (i : Int) ((scanDown (fun x => lt d[a]! x) d i j : Nat) : Int) = some y →
      k_slices_partitionEqualCmpFunc_int_3v1 a0 (a : Int) cp (Er d) (i : Int) (j : Int) = some y := by
  intro j
  induction j with
  | zero =>
    intro hj hij h
    refine t_slices_partitionEqualCmpFunc_int_3v1 _ _ cp _ _ _ ?_
    rw [brn_dec, if_neg (by omega)]
    exact h
  | succ j ih =>
    intro hj hij h
    refine t_slices_partitionEqualCmpFunc_int_3v1 _ _ cp _ _ _ ?_
    rw [scanDown_step _ _ _ (by omega)] at h
    rw [brn_dec, dn1 (by omega) (by omega), List.length_map]
    by_cases hle : i ≤ j + 1
    · rw [if_pos (by omega), rdA hn ha, rdA hn (by omega), hc.step (hP _ ha) (hP _ (by omega))]
      cases hl : lt d[a]! d[j + 1]! with
      | true =>
        rw [hl, if_pos (by simpa using hle)] at h
        rw [brn_true]
        exact ih (by omega) (by omega) h
      | false =>
        rw [hl, if_neg (by simp)] at h
        rw [brn_false]
        exact h
    · rw [if_neg (by simp; omega)] at h
      rw [if_neg (by omega)]
      exact h

theorem k_eq3' (hc : Cmp cp lt P) (a0 : List Int) (a : Nat) (d : Array Int) (hn : a0.length = d.size) (hP : AllA P d) (hs : d.size ≤ 100000) (ha : a < d.size) (i : Nat) (hi : 1 ≤ i) (hi2 : i ≤ 100001) (y : AV × Mem)
    (j : Nat) (hj : j < d.size) (hij : i ≤ j + 1) (h : k_slices_partitionEqualCmpFunc_int_1007 a0 (a : Int) cp (Er d) (i : Int) ((scanDown (fun x => lt d[a]! x) d i j : Nat) : Int) = some y) :
      k_slices_partitionEqualCmpFunc_int_3 a0 (a : Int) cp (Er d) (j : Int) (i : Int) = some y := by
  refine t_slices_partitionEqualCmpFunc_int_3 _ _ cp _ _ _ ?_
  by_cases h0 : j = 0
  · subst h0
    rw [brn_dec, if_neg (by omega)]
    exact h
  · rw [scanDown_step _ _ _ (by omega)] at h
    rw [brn_dec, dn1 (by omega) (by omega), List.length_map]
    by_cases hle : i ≤ j
    · rw [if_pos (by omega), rdA hn ha, rdA hn (by omega), hc.step (hP _ ha) (hP _ (by omega))]
      cases hl : lt d[a]! d[j]! with
      | true =>
        rw [hl, if_pos (by simpa using hle)] at h
        rw [brn_true]
        exact k_eq3 hc a0 a d hn hP hs ha i hi hi2 y (j - 1) (by omega) (by omega) h
      | false =>
        rw [hl, if_neg (by simp)] at h
        rw [brn_false]
        exact h
    · rw [if_neg (by simp; omega)] at h
      rw [if_neg (by omega)]
      exact h

theorem k_eqLoop (hc : Cmp cp lt P) (a0 : List Int) (a : Nat) : ∀ (n i j : Nat) (d : Array Int), j + 1 - i ≤ n → a < i → i ≤ j + 1 → j < d.size → a0.length = d.size → AllA P d → d.size ≤ 100000 →
    k_slices_partitionEqualCmpFunc_int_1 a0 (a : Int) cp (Er d) (i : Int) (j : Int) = rEq (partEqLoop lt a i j d).1 (partEqLoop lt a i j d).2 := by
  intro n
  induction n with
  | zero =>
    intro i j d hn hai hij hj hl hP hs
    refine t_slices_partitionEqualCmpFunc_int_1 _ _ cp _ _ _ ?_
    refine k_eq2 hc a0 a d hl hP hs (by omega) j hj _ (j + 1) i (by omega) (by omega) ?_
    have hu : scanUp (fun x => !lt d[a]! x) d j i = i := by rw [scanUp_step, if_neg (by simp; omega)]
    rw [hu]
    refine k_eq3' hc a0 a d hl hP hs (by omega) i (by omega) (by omega) _ j hj hij ?_
    have hd : scanDown (fun x => lt d[a]! x) d i j = j := by
      by_cases h0 : j = 0
      · subst h0; rfl
      · rw [scanDown_step _ _ _ (by omega), if_neg (by simp; omega)]
    rw [hd]
    refine t_slices_partitionEqualCmpFunc_int_1007 _ _ cp _ _ _ ?_
    rw [partEqLoop_eq, hu, hd, if_pos (show i > j by omega), brn_dec, if_pos (by omega)]
  | succ n ih =>
    intro i j d hn hai hij hj hl hP hs
    refine t_slices_partitionEqualCmpFunc_int_1 _ _ cp _ _ _ ?_
    refine k_eq2 hc a0 a d hl hP hs (by omega) j hj _ (j + 1) i (by omega) (by omega) ?_
    have u1 := scanUp_ge (fun x => !lt d[a]! x) d j i
    have u2 := scanUp_bd (fun x => !lt d[a]! x) d j (j + 1) i (by omega) hij
    refine k_eq3' hc a0 a d hl hP hs (by omega) _ (by omega) (by omega) _ j hj (by omega) ?_
    have d1 := scanDown_le (fun x => lt d[a]! x) d (scanUp (fun x => !lt d[a]! x) d j i) j
    have d2 := scanDown_bd (fun x => lt d[a]! x) d (scanUp (fun x => !lt d[a]! x) d j i) (by omega) j (by omega)
    have u3 := scanUp_stop (fun x => !lt d[a]! x) d j (j + 1) i (by omega)
    have d3 := scanDown_stop (fun x => lt d[a]! x) d (scanUp (fun x => !lt d[a]! x) d j i) (by omega) j
    refine t_slices_partitionEqualCmpFunc_int_1007 _ _ cp _ _ _ ?_
    rw [partEqLoop_eq]
    generalize scanUp (fun x => !lt d[a]! x) d j i = i2 at *
    generalize scanDown (fun x => lt d[a]! x) d i2 j = j2 at *
    rw [brn_dec]
    by_cases hgt : i2 > j2
    · rw [if_pos (by omega), if_pos hgt]
    · have hne : i2 ≠ j2 := by
        intro heq
        have w1 := u3 (by omega)
        have w2 := d3 (by omega)
        rw [heq, w2] at w1
        cases w1
      rw [if_neg (by omega), if_neg hgt, List.length_map, rdA hl (by omega), rdA hl (by omega), rdA hl (by omega), rdS hl (by omega), swpE, up1 (by omega), dn1 (by omega) (by omega)]
      exact ih (i2 + 1) (j2 - 1) _ (by omega) (by omega) (by omega) (by rw [swp_size]; omega) (by rw [swp_size]; exact hl) (hP.swp (by omega) (by omega)) (by rw [swp_size]; exact hs)

theorem c_partitionEqual (hc : Cmp cp lt P) (d0 : Array Int) (a b pivot : Nat) (hP0 : AllA P d0) (ha : a ≤ pivot) (hp : pivot < b) (hb : b ≤ d0.size) (hs0 : d0.size ≤ 100000) :
    cw f_slices_partitionEqualCmpFunc_int [rA d0, I (a : Int), I (b : Int), I (pivot : Int), .fn f_severity_Rank_1 [.fa 2 (List.map dGRatio.enc cp)]] (mA d0) = rEq (partitionEqual lt d0 a b pivot).1 (partitionEqual lt d0 a b pivot).2 := by
  have hn0 : d0.toList.length = d0.size := by simp
  refine e_slices_partitionEqualCmpFunc_int d0.toList _ _ _ cp ?_
  rw [List.length_map, rdA hn0 (by omega), rdA hn0 (by omega), rdA hn0 (by omega), rdS hn0 (by omega), up1 (by omega), dn1 (by omega) (by omega), swpE]
  exact k_eqLoop hc d0.toList a b (a + 1) (b - 1) _ (by omega) (by omega) (by omega) (by rw [swp_size]; omega) (by rw [swp_size]; exact hn0) (hP0.swp (by omega) (by omega)) (by rw [swp_size]; exact hs0)

/-! ## the pivot -/

theorem rdL {β : Type} {d : Array Int} {i : Nat} (hi : i < d.size) (K : Int → Option β) :
    (chk ((0 : Int) ≤ (i : Int)) <| elemD dI_i64 (Er d) (((i : Nat) : Int).toNat) K) = K d[i]! := by
  rw [chk_pos (by omega), Int.toNat_natCast, elemD_map (D := dI_i64) (l := d.toList) (x := d[i]!) (by simp [hi])]

noncomputable abbrev mSw (k : Nat) (s : Int) : Mem := [(k, ⟨1, ty_i64_2, [dI_i64.enc s], true⟩)]

theorem c_order2 (hc : Cmp cp lt P) (d : Array Int) (hP : AllA P d) (a b : Nat) (s : Int) (ha : a < d.size) (hb : b < d.size) (hs0 : 0 ≤ s) (hs : s ≤ 1000) :
    ∃ (x y : Nat) (s' : Int), cw f_slices_order2CmpFunc_int [.sl 1 (Er d), I (a : Int), I (b : Int), .loc 1003 1 0 0, .fn f_severity_Rank_1 [.fa 2 (List.map dGRatio.enc cp)]] (mSw 1003 s) = some (r_slices_order2CmpFunc_int.enc (((x : Int), (y : Int)), s')) ∧ ((x = a ∧ y = b) ∨ (x = b ∧ y = a)) ∧ 0 ≤ s' ∧ s' ≤ s + 1 := by
  cases hl : lt d[b]! d[a]! with
  | true =>
    refine ⟨b, a, s + 1, e_slices_order2CmpFunc_int d.toList _ _ _ cp ?_, .inr ⟨rfl, rfl⟩, by omega, by omega⟩
    rw [rdL hb, rdL ha, hc.step (hP _ hb) (hP _ ha), hl, brn_true, w64_id (by omega) (by omega)]
  | false =>
    refine ⟨a, b, s, e_slices_order2CmpFunc_int d.toList _ _ _ cp ?_, .inl ⟨rfl, rfl⟩, by omega, by omega⟩
    rw [rdL hb, rdL ha, hc.step (hP _ hb) (hP _ ha), hl, brn_false]

theorem c_median (hc : Cmp cp lt P) (d : Array Int) (hP : AllA P d) (a b c : Nat) (s : Int) (ha : a < d.size) (hb : b < d.size) (hcc : c < d.size) (hs0 : 0 ≤ s) (hs : s ≤ 900) :
    ∃ (x : Nat) (s' : Int), cw f_slices_medianCmpFunc_int [.sl 1 (Er d), I (a : Int), I (b : Int), I (c : Int), .loc 1004 1 0 0, .fn f_severity_Rank_1 [.fa 2 (List.map dGRatio.enc cp)]] (mSw 1004 s) = some (r_slices_medianCmpFunc_int.enc ((x : Int), s')) ∧ (x = a ∨ x = b ∨ x = c) ∧ 0 ≤ s' ∧ s' ≤ s + 3 := by
  obtain ⟨x1, y1, s1, h1, o1, p1, q1⟩ := c_order2 hc d hP a b s ha hb hs0 (by omega)
  obtain ⟨x2, y2, s2, h2, o2, p2, q2⟩ := c_order2 hc d hP y1 c s1 (by omega) hcc p1 (by omega)
  obtain ⟨x3, y3, s3, h3, o3, p3, q3⟩ := c_order2 hc d hP x1 x2 s2 (by omega) (by omega) p2 (by omega)
  refine ⟨y3, s3, e_slices_medianCmpFunc_int d.toList _ _ _ _ cp ?_, by omega, p3, by omega⟩
  rw [callD_of h1, callD_of h2, callD_of h3]

theorem c_medianAdjacent (hc : Cmp cp lt P) (d : Array Int) (hP : AllA P d) (a : Nat) (s : Int) (ha : a + 1 < d.size) (ha1 : 1 ≤ a) (hsz : d.size ≤ 100000) (hs0 : 0 ≤ s) (hs : s ≤ 900) :
    ∃ (x : Nat) (s' : Int), cw f_slices_medianAdjacentCmpFunc_int [.sl 1 (Er d), I (a : Int), .loc 1002 1 0 0, .fn f_severity_Rank_1 [.fa 2 (List.map dGRatio.enc cp)]] (mSw 1002 s) = some (r_slices_medianAdjacentCmpFunc_int.enc ((x : Int), s')) ∧ (x = a - 1 ∨ x = a ∨ x = a + 1) ∧ 0 ≤ s' ∧ s' ≤ s + 3 := by
  obtain ⟨x, s', h, o, p, q⟩ := c_median hc d hP (a - 1) a (a + 1) s (by omega) (by omega) ha hs0 hs
  refine ⟨x, s', e_slices_medianAdjacentCmpFunc_int d.toList _ _ cp ?_, o, p, q⟩
  rw [dn1 ha1 (by omega), up1 (by omega), callD_of h]

set_option maxHeartbeats 1000000 in
theorem c_choosePivot (hc : Cmp cp lt P) (d : Array Int) (hP : AllA P d) (a b : Nat) (hab : a < b) (hb : b ≤ d.size) (hsz : d.size ≤ 100000) :
    ∃ (m : Nat) (h : Int), cw f_slices_choosePivotCmpFunc_int [.sl 1 (Er d), I (a : Int), I (b : Int), .fn f_severity_Rank_1 [.fa 2 (List.map dGRatio.enc cp)]] [] = some (r_slices_choosePivotCmpFunc_int.enc ((m : Int), h)) ∧ a ≤ m ∧ m < b ∧ (h = 0 ∨ h = 1 ∨ h = 2) := by
  have e0 : w64 ((b : Int) - (a : Int)) = ((b - a : Nat) : Int) := by rw [w64_id (by omega) (by omega)]; omega
  have e1 : (((b - a : Nat) : Int)).tdiv 4 = (((b - a) / 4 : Nat) : Int) := rfl
  have ew : w64 (((b - a) / 4 : Nat) : Int) = (((b - a) / 4 : Nat) : Int) := w64_id (by omega) (by omega)
  have ei : ∀ c : Nat, c ≤ 3 → w64 ((a : Int) + w64 ((((b - a) / 4 : Nat) : Int) * (c : Int))) = ((a + (b - a) / 4 * c : Nat) : Int) := fun c hc => by
    have : (((b - a) / 4 : Nat) : Int) * (c : Int) = (((b - a) / 4 * c : Nat) : Int) := by push_cast; rfl
    have h2 : (b - a) / 4 * c ≤ (b - a) / 4 * 3 := Nat.mul_le_mul_left _ hc
    rw [this, w64_id (n := (((b - a) / 4 * c : Nat) : Int)) (by omega) (by omega), w64_id (by omega) (by omega)]
    omega
  have ei1 := ei 1 (by omega)
  have ei2 := ei 2 (by omega)
  have ei3 := ei 3 (by omega)
  have c1 : ((1 : Nat) : Int) = 1 := rfl
  have c2 : ((2 : Nat) : Int) = 2 := rfl
  have c3 : ((3 : Nat) : Int) = 3 := rfl
  rw [c1] at ei1
  rw [c2] at ei2
  rw [c3] at ei3
  have fin : ∀ (m : Nat) (s : Int), ∃ h : Int, (h = 0 ∨ h = 1 ∨ h = 2) ∧ (brn (s == 0) (some (AV.tup [I (m : Int), I 1], ([] : Mem))) (brn (s == 12) (some (.tup [I (m : Int), I 2], [])) (some (.tup [I (m : Int), I 0], [])))) = some (r_slices_choosePivotCmpFunc_int.enc ((m : Int), h)) := by
    intro m s
    by_cases hz : s = 0
    · exact ⟨1, by omega, by rw [hz]; rfl⟩
    · by_cases hz2 : s = 12
      · exact ⟨2, by omega, by rw [hz2]; rfl⟩
      · refine ⟨0, by omega, ?_⟩
        rw [beq_false_of_ne hz, beq_false_of_ne hz2]; rfl
  by_cases h8 : 8 ≤ b - a
  · by_cases h50 : 50 ≤ b - a
    · obtain ⟨x1, s1, g1, o1, p1, q1⟩ := c_medianAdjacent hc d hP (a + (b - a) / 4 * 1) 0 (by omega) (by omega) hsz (by omega) (by omega)
      have v1 : a ≤ x1 ∧ x1 < b := by omega
      clear o1
      obtain ⟨x2, s2, g2, o2, p2, q2⟩ := c_medianAdjacent hc d hP (a + (b - a) / 4 * 2) s1 (by omega) (by omega) hsz p1 (by omega)
      have v2 : a ≤ x2 ∧ x2 < b := by omega
      clear o2
      obtain ⟨x3, s3, g3, o3, p3, q3⟩ := c_medianAdjacent hc d hP (a + (b - a) / 4 * 3) s2 (by omega) (by omega) hsz p2 (by omega)
      have v3 : a ≤ x3 ∧ x3 < b := by omega
      clear o3
      obtain ⟨x4, s4, g4, o4, p4, q4⟩ := c_median hc d hP x1 x2 x3 s3 (by omega) (by omega) (by omega) p3 (by omega)
      have v4 : a ≤ x4 ∧ x4 < b := by omega
      clear o4
      obtain ⟨h, hh, hf⟩ := fin x4 s4
      refine ⟨x4, h, e_slices_choosePivotCmpFunc_int d.toList _ _ cp ?_, v4.1, v4.2, hh⟩
      clear hh
      rw [chk_pos (by omega), chk_pos (by omega), chk_pos (by omega), e0, e1, ew, ei1, ei2, ei3, brn_dec, if_pos (by omega), brn_dec, if_pos (by omega), callD_of g1, callD_of g2, callD_of g3]
      refine t_slices_choosePivotCmpFunc_int_1011 _ cp _ _ _ ?_
      rw [callD_of g4]
      exact hf
    · obtain ⟨x4, s4, g4, o4, p4, q4⟩ := c_median hc d hP (a + (b - a) / 4 * 1) (a + (b - a) / 4 * 2) (a + (b - a) / 4 * 3) 0 (by omega) (by omega) (by omega) (by omega) (by omega)
      have v4 : a ≤ x4 ∧ x4 < b := by omega
      clear o4
      obtain ⟨h, hh, hf⟩ := fin x4 s4
      refine ⟨x4, h, e_slices_choosePivotCmpFunc_int d.toList _ _ cp ?_, v4.1, v4.2, hh⟩
      clear hh
      rw [chk_pos (by omega), chk_pos (by omega), chk_pos (by omega), e0, brn_dec, if_pos (by omega), brn_dec, if_neg (by omega)]
      refine t_slices_choosePivotCmpFunc_int_1011v1 _ _ _ cp ?_
      rw [e0, e1, ew, ei1, ei2, ei3, callD_of g4]
      exact hf
  · refine ⟨a + (b - a) / 4 * 2, 1, e_slices_choosePivotCmpFunc_int d.toList _ _ cp ?_, by omega, by omega, by omega⟩
    rw [chk_pos (by omega), chk_pos (by omega), chk_pos (by omega), e0, e1, ew, ei2, brn_dec, if_neg (by omega)]
end
end Go.Proofs.Ytohpjbokhcifbaa

namespace Go.Proofs.Ytohpjbokhcifbaa
open Go.Ab Go.Sort
set_option linter.unusedVariables false

/-! ## the length in bits -/
theorem c_Len64 : ∀ n : Nat, n < 50 → cw f_bits_Len64 [.v (.int .u64 (n : Int))] [] = some (r_bits_Len64.enc ((bitsLen n : Nat) : Int))
  | 0, _ => e_bits_Len64_0 (by kernel_rfl)
  | 1, _ => e_bits_Len64_1 (by kernel_rfl)
  | 2, _ => e_bits_Len64_2 (by kernel_rfl)
  | 3, _ => e_bits_Len64_3 (by kernel_rfl)
  | 4, _ => e_bits_Len64_4 (by kernel_rfl)
  | 5, _ => e_bits_Len64_5 (by kernel_rfl)
  | 6, _ => e_bits_Len64_6 (by kernel_rfl)
  | 7, _ => e_bits_Len64_7 (by kernel_rfl)
  | 8, _ => e_bits_Len64_8 (by kernel_rfl)
  | 9, _ => e_bits_Len64_9 (by kernel_rfl)
  | 10, _ => e_bits_Len64_10 (by kernel_rfl)
  | 11, _ => e_bits_Len64_11 (by kernel_rfl)
  | 12, _ => e_bits_Len64_12 (by kernel_rfl)
  | 13, _ => e_bits_Len64_13 (by kernel_rfl)
  | 14, _ => e_bits_Len64_14 (by kernel_rfl)
  | 15, _ => e_bits_Len64_15 (by kernel_rfl)
  | 16, _ => e_bits_Len64_16 (by kernel_rfl)
  | 17, _ => e_bits_Len64_17 (by kernel_rfl)
  | 18, _ => e_bits_Len64_18 (by kernel_rfl)
  | 19, _ => e_bits_Len64_19 (by kernel_rfl)
  | 20, _ => e_bits_Len64_20 (by kernel_rfl)
  | 21, _ => e_bits_Len64_21 (by kernel_rfl)
  | 22, _ => e_bits_Len64_22 (by kernel_rfl)
  | 23, _ => e_bits_Len64_23 (by kernel_rfl)
  | 24, _ => e_bits_Len64_24 (by kernel_rfl)
  | 25, _ => e_bits_Len64_25 (by kernel_rfl)
  | 26, _ => e_bits_Len64_26 (by kernel_rfl)
  | 27, _ => e_bits_Len64_27 (by kernel_rfl)
  | 28, _ => e_bits_Len64_28 (by kernel_rfl)
  | 29, _ => e_bits_Len64_29 (by kernel_rfl)
  | 30, _ => e_bits_Len64_30 (by kernel_rfl)
  | 31, _ => e_bits_Len64_31 (by kernel_rfl)
  | 32, _ => e_bits_Len64_32 (by kernel_rfl)
  | 33, _ => e_bits_Len64_33 (by kernel_rfl)
  | 34, _ => e_bits_Len64_34 (by kernel_rfl)
  | 35, _ => e_bits_Len64_35 (by kernel_rfl)
  | 36, _ => e_bits_Len64_36 (by kernel_rfl)
  | 37, _ => e_bits_Len64_37 (by kernel_rfl)
  | 38, _ => e_bits_Len64_38 (by kernel_rfl)
  | 39, _ => e_bits_Len64_39 (by kernel_rfl)
  | 40, _ => e_bits_Len64_40 (by kernel_rfl)
  | 41, _ => e_bits_Len64_41 (by kernel_rfl)
  | 42, _ => e_bits_Len64_42 (by kernel_rfl)
  | 43, _ => e_bits_Len64_43 (by kernel_rfl)
  | 44, _ => e_bits_Len64_44 (by kernel_rfl)
  | 45, _ => e_bits_Len64_45 (by kernel_rfl)
  | 46, _ => e_bits_Len64_46 (by kernel_rfl)
  | 47, _ => e_bits_Len64_47 (by kernel_rfl)
  | 48, _ => e_bits_Len64_48 (by kernel_rfl)
  | 49, _ => e_bits_Len64_49 (by kernel_rfl)
  | n + 50, h => absurd h (by omega)

theorem c_Len (n : Nat) (h : n < 50) : cw f_bits_Len [.v (.int .u64 (n : Int))] [] = some (r_bits_Len.enc ((bitsLen n : Nat) : Int)) := by
  refine e_bits_Len _ ?_
  rw [callD_of (c_Len64 n h)]

theorem bitsLen_le6 {n : Nat} (h : n < 50) : bitsLen n ≤ 6 := (bitsLen_le_iff n 6).2 (by omega)

theorem c_nextPow (n : Nat) (h : n < 50) : cw f_slices_nextPowerOfTwo [I (n : Int)] [] = some (r_slices_nextPowerOfTwo.enc ((2 ^ bitsLen n : Nat) : Int)) := by
  refine e_slices_nextPowerOfTwo _ ?_
  have hb := bitsLen_le6 h
  have hp : 2 ^ bitsLen n ≤ 2 ^ 6 := Nat.pow_le_pow_right (by omega) hb
  rw [wu64_id (n := (n : Int)) (by omega) (by omega), callD_of (c_Len n h), chk_pos (by omega), Int.toNat_natCast, Nat.min_eq_left (by omega)]
  have e : (1 : Int) * 2 ^ bitsLen n = ((2 ^ bitsLen n : Nat) : Int) := by push_cast; rw [Int.one_mul]
  rw [e]
  clear e
  have hp' : 2 ^ bitsLen n ≤ 64 := hp
  clear hp
  generalize 2 ^ bitsLen n = z at hp' ⊢
  rw [wu64_id (by omega) (by omega)]

theorem c_xor (x : Int) : ∃ v w : Int, cw f_slices_xorshift_Next [.loc 1000 1 0 0] [(1000, ⟨1, ty_slices_xorshift, [dI_u64.enc x], true⟩)] = some (r_slices_xorshift_Next.enc (v, w)) := by
  apply Exists.intro
  apply Exists.intro
  apply e_slices_xorshift_Next
  rw [chk_pos (by omega), chk_pos (by omega), chk_pos (by omega)]

section
variable {cp : List GRatio} {lt : Int → Int → Bool} {P : Int → Prop}

/-! ## the broken patterns -/
theorem and_bd (v : Nat) (M : Nat) (h1 : 1 ≤ M) (h2 : M ≤ 1000) : v &&& (wu64 ((M : Int) - 1) % Int.ofNat (2 ^ 64)).toNat < M := by
  have e : (wu64 ((M : Int) - 1) % Int.ofNat (2 ^ 64)).toNat = M - 1 := by
    rw [wu64_id (by omega) (by omega)]
    show (((M : Int) - 1) % (18446744073709551616 : Int)).toNat = M - 1
    omega
  rw [e]
  have := Nat.and_le_right (n := v) (m := M - 1)
  omega

theorem k_break (a0 : List Int) (a b M : Nat) (hab : a + 8 ≤ b) (hM : 1 ≤ M) (hM2 : M ≤ 2 * (b - a)) (hM3 : M ≤ 1000) (hbs : b ≤ 100000) : ∀ (k i : Nat) (x : Int) (d : Array Int), a + (b - a) / 4 * 2 + 2 ≤ i + k → a ≤ i → a0.length = d.size → b ≤ d.size → d.size ≤ 100000 →
    ∃ d', k_slices_breakPatternsCmpFunc_int_1 a0 (a : Int) (b : Int) (M : Int) x (Er d) (i : Int) = some (r_slices_breakPatternsCmpFunc_int.enc d'.toList) ∧ PermIn a b d d' := by
  have e0 : w64 ((b : Int) - (a : Int)) = ((b - a : Nat) : Int) := by rw [w64_id (by omega) (by omega)]; omega
  have e1 : (((b - a : Nat) : Int)).tdiv 4 = (((b - a) / 4 : Nat) : Int) := rfl
  intro k
  induction k with
  | zero =>
    intro i x d hk hi hn hb hs
    refine ⟨d, t_slices_breakPatternsCmpFunc_int_1 _ _ _ _ _ _ _ ?_, permIn_refl _ _ _⟩
    have e2 : w64 (w64 ((a : Int) + w64 (w64 (((b - a : Nat) : Int).tdiv 4) * 2)) + 1) = ((a + (b - a) / 4 * 2 + 1 : Nat) : Int) := by
      rw [e1, w64_id (n := (((b - a) / 4 : Nat) : Int)) (by omega) (by omega), w64_id (n := (((b - a) / 4 : Nat) : Int) * 2) (by omega) (by omega), w64_id (n := (a : Int) + _) (by omega) (by omega), w64_id (by omega) (by omega)]
      omega
    rw [chk_pos (by omega), e0, e2, brn_dec, if_neg (by omega)]
  | succ k ih =>
    intro i x d hk hi hn hb hs
    have e2 : w64 (w64 ((a : Int) + w64 (w64 (((b - a : Nat) : Int).tdiv 4) * 2)) + 1) = ((a + (b - a) / 4 * 2 + 1 : Nat) : Int) := by
      rw [e1, w64_id (n := (((b - a) / 4 : Nat) : Int)) (by omega) (by omega), w64_id (n := (((b - a) / 4 : Nat) : Int) * 2) (by omega) (by omega), w64_id (n := (a : Int) + _) (by omega) (by omega), w64_id (by omega) (by omega)]
      omega
    by_cases hle : i ≤ a + (b - a) / 4 * 2 + 1
    · obtain ⟨v, w, hx⟩ := c_xor x
      have hq := and_bd (v % Int.ofNat (2 ^ 64)).toNat M hM hM3
      have hl2 : (b - a) / 4 * 2 + 1 < b - a := by omega
      by_cases hge : b - a ≤ ((v % Int.ofNat (2 ^ 64)).toNat &&& (wu64 ((M : Int) - 1) % Int.ofNat (2 ^ 64)).toNat)
      · obtain ⟨d', g1, g2⟩ := ih (i + 1) w (swp d i (a + (((v % Int.ofNat (2 ^ 64)).toNat &&& (wu64 ((M : Int) - 1) % Int.ofNat (2 ^ 64)).toNat) - (b - a)))) (by omega) (by omega) (by rw [swp_size]; exact hn) (by rw [swp_size]; exact hb) (by rw [swp_size]; exact hs)
        refine ⟨d', t_slices_breakPatternsCmpFunc_int_1 _ _ _ _ _ _ _ ?_, permIn_trans _ _ _ _ _ (swp_permIn d a b i _ hi (by omega) (by omega) (by omega) hb) g2⟩
        rw [chk_pos (by omega), e0, e2, brn_dec, if_pos (by omega), callD_of hx]
        dsimp only
        have hT : ∀ y, k_slices_breakPatternsCmpFunc_int_1010 a0 (a : Int) (b : Int) (M : Int) (Er d) (i : Int) (v, w) = some y → (chk ((4 : Int) ≠ 0) <| k_slices_breakPatternsCmpFunc_int_1010 a0 (a : Int) (b : Int) (M : Int) (Er d) (i : Int) (v, w)) = some y := fun y h => by rw [chk_pos (by omega)]; exact h
        have hG := t_slices_breakPatternsCmpFunc_int_1010 a0 (a : Int) (b : Int) (M : Int) (Er d) (i : Int) (v, w) (y := r_slices_breakPatternsCmpFunc_int.enc d'.toList)
        dsimp only at hG
        generalize ((v % Int.ofNat (2 ^ 64)).toNat &&& (wu64 ((M : Int) - 1) % Int.ofNat (2 ^ 64)).toNat) = q at hq hge g1 hG ⊢
        rw [wu64_id (n := (q : Int)) (by omega) (by omega), w64_id (n := (q : Int)) (by omega) (by omega), brn_dec, if_pos (by omega)]
        apply hG
        have ei : w64 ((a : Int) + w64 (w64 (wu64 (q : Int)) - w64 ((b : Int) - (a : Int)))) = ((a + (q - (b - a)) : Nat) : Int) := by
          rw [wu64_id (n := (q : Int)) (by omega) (by omega), w64_id (n := (q : Int)) (by omega) (by omega), e0, w64_id (n := (q : Int) - _) (by omega) (by omega), w64_id (by omega) (by omega)]
          omega
        rw [ei, List.length_map, rdA hn (by omega), rdA hn (by omega), rdA hn (by omega), rdS hn (by omega), swpE, up1 (by omega)]
        exact g1
      · obtain ⟨d', g1, g2⟩ := ih (i + 1) w (swp d i (a + (((v % Int.ofNat (2 ^ 64)).toNat &&& (wu64 ((M : Int) - 1) % Int.ofNat (2 ^ 64)).toNat)))) (by omega) (by omega) (by rw [swp_size]; exact hn) (by rw [swp_size]; exact hb) (by rw [swp_size]; exact hs)
        refine ⟨d', t_slices_breakPatternsCmpFunc_int_1 _ _ _ _ _ _ _ ?_, permIn_trans _ _ _ _ _ (swp_permIn d a b i _ hi (by omega) (by omega) (by omega) hb) g2⟩
        rw [chk_pos (by omega), e0, e2, brn_dec, if_pos (by omega), callD_of hx]
        dsimp only
        have hG := t_slices_breakPatternsCmpFunc_int_1010v1 a0 (a : Int) (b : Int) (M : Int) (Er d) (i : Int) (v, w) (y := r_slices_breakPatternsCmpFunc_int.enc d'.toList)
        dsimp only at hG
        generalize ((v % Int.ofNat (2 ^ 64)).toNat &&& (wu64 ((M : Int) - 1) % Int.ofNat (2 ^ 64)).toNat) = q at hq hge g1 hG ⊢
        rw [wu64_id (n := (q : Int)) (by omega) (by omega), w64_id (n := (q : Int)) (by omega) (by omega), brn_dec, if_neg (by omega)]
        apply hG
        have ei : w64 ((a : Int) + w64 (wu64 (q : Int))) = ((a + q : Nat) : Int) := by
          rw [wu64_id (n := (q : Int)) (by omega) (by omega), w64_id (n := (q : Int)) (by omega) (by omega), w64_id (by omega) (by omega)]
          omega
        rw [ei, List.length_map, rdA hn (by omega), rdA hn (by omega), rdA hn (by omega), rdS hn (by omega), swpE, up1 (by omega)]
        exact g1
    · refine ⟨d, t_slices_breakPatternsCmpFunc_int_1 _ _ _ _ _ _ _ ?_, permIn_refl _ _ _⟩
      rw [chk_pos (by omega), e0, e2, brn_dec, if_neg (by omega)]

theorem c_break (d : Array Int) (a b : Nat) (hab : a ≤ b) (hb : b ≤ d.size) (hs : d.size < 50) :
    ∃ d', cw f_slices_breakPatternsCmpFunc_int [rA d, I (a : Int), I (b : Int), .fn f_severity_Rank_1 [.fa 2 (List.map dGRatio.enc cp)]] (mA d) = some (r_slices_breakPatternsCmpFunc_int.enc d'.toList) ∧ PermIn a b d d' := by
  have e0 : w64 ((b : Int) - (a : Int)) = ((b - a : Nat) : Int) := by rw [w64_id (by omega) (by omega)]; omega
  have e1 : (((b - a : Nat) : Int)).tdiv 4 = (((b - a) / 4 : Nat) : Int) := rfl
  by_cases h8 : 8 ≤ b - a
  · have hM2 := two_pow_bitsLen_le (n := b - a) (by omega)
    have e2 : w64 (w64 ((a : Int) + w64 (w64 (((b - a : Nat) : Int).tdiv 4) * 2)) - 1) = ((a + (b - a) / 4 * 2 - 1 : Nat) : Int) := by
      rw [e1, w64_id (n := (((b - a) / 4 : Nat) : Int)) (by omega) (by omega), w64_id (n := (((b - a) / 4 : Nat) : Int) * 2) (by omega) (by omega), w64_id (n := (a : Int) + _) (by omega) (by omega), w64_id (by omega) (by omega)]
      omega
    obtain ⟨d', g1, g2⟩ := k_break d.toList a b (2 ^ bitsLen (b - a)) (by omega) (Nat.one_le_two_pow) hM2 (by omega) (by omega) 100 (a + (b - a) / 4 * 2 - 1) (wu64 ((b - a : Nat) : Int)) d (by omega) (by omega) (by simp) hb (by omega)
    refine ⟨d', e_slices_breakPatternsCmpFunc_int d.toList _ _ cp ?_, g2⟩
    rw [e0, brn_dec, if_pos (by omega), callD_of (c_nextPow (b - a) (by omega)), chk_pos (by omega), e2]
    exact g1
  · refine ⟨d, e_slices_breakPatternsCmpFunc_int d.toList _ _ cp ?_, permIn_refl _ _ _⟩
    rw [e0, brn_dec, if_neg (by omega)]

/-! ## the trial -/
theorem k_trial7 (a0 : List Int) (a b i : Nat) (d : Array Int) (hab : a < b) (hsm : b < 50) (hS : SortedIn lt a i d) :
    ∃ f : Bool, k_slices_partialInsertionSortCmpFunc_int_1007 a0 (a : Int) (b : Int) cp (Er d) 0 (i : Int) = some (r_slices_partialInsertionSortCmpFunc_int.enc (f, d.toList)) ∧ (f = true → SortedIn lt a b d) := by
  by_cases hi : i = b
  · refine ⟨true, t_slices_partialInsertionSortCmpFunc_int_1007 _ _ _ cp _ _ _ ?_, fun _ => hi ▸ hS⟩
    rw [hi, beq_self_eq_true, brn_true]
  · refine ⟨false, t_slices_partialInsertionSortCmpFunc_int_1007 _ _ _ cp _ _ _ ?_, fun h => nomatch h⟩
    rw [beq_false_of_ne (by omega), brn_false, w64_id (by omega) (by omega), brn_dec, if_pos (by omega)]

theorem k_trial2 (hc : Cmp cp lt P) (hW : SWO lt) (a0 : List Int) (a b : Nat) (d : Array Int) (hab : a < b) (hsm : b < 50) (hn : a0.length = d.size) (hP : AllA P d) (hb : b ≤ d.size) (hs : d.size ≤ 100000) : ∀ (k i : Nat), b ≤ i + k → a < i → i ≤ b → SortedIn lt a i d →
    ∃ f : Bool, k_slices_partialInsertionSortCmpFunc_int_2v1 a0 (a : Int) (b : Int) cp (Er d) 0 (i : Int) = some (r_slices_partialInsertionSortCmpFunc_int.enc (f, d.toList)) ∧ (f = true → SortedIn lt a b d) := by
  intro k
  induction k with
  | zero =>
    intro i hk hi hib hS
    obtain ⟨f, h1, h2⟩ := k_trial7 a0 a b i d hab hsm hS
    refine ⟨f, t_slices_partialInsertionSortCmpFunc_int_2v1 _ _ _ cp _ _ _ ?_, h2⟩
    rw [brn_dec, if_neg (by omega)]
    exact h1
  | succ k ih =>
    intro i hk hi hib hS
    by_cases hlt : i < b
    · cases hl : lt d[i]! d[i - 1]! with
      | false =>
        obtain ⟨f, h1, h2⟩ := ih (i + 1) (by omega) (by omega) (by omega) (hS.snoc hW hl)
        refine ⟨f, t_slices_partialInsertionSortCmpFunc_int_2v1 _ _ _ cp _ _ _ ?_, h2⟩
        rw [brn_dec, if_pos (by omega), dn1 (by omega) (by omega), List.length_map, rdA hn (by omega), rdA hn (by omega), hc.stepN (hP _ (by omega)) (hP _ (by omega)), hl, brn_false, up1 (by omega)]
        exact h1
      | true =>
        obtain ⟨f, h1, h2⟩ := k_trial7 a0 a b i d hab hsm hS
        refine ⟨f, t_slices_partialInsertionSortCmpFunc_int_2v1 _ _ _ cp _ _ _ ?_, h2⟩
        rw [brn_dec, if_pos (by omega), dn1 (by omega) (by omega), List.length_map, rdA hn (by omega), rdA hn (by omega), hc.stepN (hP _ (by omega)) (hP _ (by omega)), hl, brn_true]
        exact h1
    · obtain ⟨f, h1, h2⟩ := k_trial7 a0 a b i d hab hsm hS
      refine ⟨f, t_slices_partialInsertionSortCmpFunc_int_2v1 _ _ _ cp _ _ _ ?_, h2⟩
      rw [brn_dec, if_neg (by omega)]
      exact h1

theorem c_trial (hc : Cmp cp lt P) (hW : SWO lt) (d : Array Int) (a b : Nat) (hP : AllA P d) (hab : a < b) (hb : b ≤ d.size) (hs : d.size < 50) :
    ∃ f : Bool, cw f_slices_partialInsertionSortCmpFunc_int [rA d, I (a : Int), I (b : Int), .fn f_severity_Rank_1 [.fa 2 (List.map dGRatio.enc cp)]] (mA d) = some (r_slices_partialInsertionSortCmpFunc_int.enc (f, d.toList)) ∧ (f = true → SortedIn lt a b d) := by
  have hS1 : SortedIn lt a (a + 1) d := fun i j h1 h2 h3 => by omega
  have hn : d.toList.length = d.size := by simp
  have main : ∃ f : Bool, k_slices_partialInsertionSortCmpFunc_int_2 d.toList (a : Int) (b : Int) cp (Er d) ((a + 1 : Nat) : Int) 0 = some (r_slices_partialInsertionSortCmpFunc_int.enc (f, d.toList)) ∧ (f = true → SortedIn lt a b d) := by
    by_cases hlt : a + 1 < b
    · cases hl : lt d[a + 1]! d[a + 1 - 1]! with
      | false =>
        obtain ⟨f, h1, h2⟩ := k_trial2 hc hW d.toList a b d hab (by omega) hn hP hb (by omega) b (a + 1 + 1) (by omega) (by omega) (by omega) (hS1.snoc hW hl)
        refine ⟨f, t_slices_partialInsertionSortCmpFunc_int_2 _ _ _ cp _ _ _ ?_, h2⟩
        rw [brn_dec, if_pos (by omega), dn1 (by omega) (by omega), List.length_map, rdA hn (by omega), rdA hn (by omega), hc.stepN (hP _ (by omega)) (hP _ (by omega)), hl, brn_false, up1 (by omega)]
        exact h1
      | true =>
        obtain ⟨f, h1, h2⟩ := k_trial7 d.toList a b (a + 1) d hab (by omega) hS1
        refine ⟨f, t_slices_partialInsertionSortCmpFunc_int_2 _ _ _ cp _ _ _ ?_, h2⟩
        rw [brn_dec, if_pos (by omega), dn1 (by omega) (by omega), List.length_map, rdA hn (by omega), rdA hn (by omega), hc.stepN (hP _ (by omega)) (hP _ (by omega)), hl, brn_true]
        exact h1
    · obtain ⟨f, h1, h2⟩ := k_trial7 d.toList a b (a + 1) d hab (by omega) hS1
      refine ⟨f, t_slices_partialInsertionSortCmpFunc_int_2 _ _ _ cp _ _ _ ?_, h2⟩
      rw [brn_dec, if_neg (by omega)]
      exact h1
  obtain ⟨f, h1, h2⟩ := main
  refine ⟨f, e_slices_partialInsertionSortCmpFunc_int d.toList _ _ cp (t_slices_partialInsertionSortCmpFunc_int_1 _ _ _ cp _ _ _ ?_), h2⟩
  rw [brn_dec, if_pos (by omega), up1 (by omega)]
  exact h1
end
end Go.Proofs.Ytohpjbokhcifbaa

namespace Go.Proofs.Ytohpjbokhcifbaa
open Go.Ab Go.Sort
set_option linter.unusedVariables false

section
variable {cp : List GRatio} {lt : Int → Int → Bool} {P : Int → Prop}

/-- what the rounds do on a part shorter than n -/
def PdqOk (lt : Int → Int → Bool) (P : Int → Prop) (n : Nat) : Prop := ∀ (a b : Nat) (d : Array Int) (a0 : List Int) (lim : Nat) (wb wp : Bool), b - a < n → a ≤ b → b ≤ d.size → d.size < 50 → a0.length = d.size → AllA P d → Below lt a b d → lim ≤ 100 →
  ∃ d', k_slices_pdqsortCmpFunc_int_1 a0 cp (Er d) (a : Int) (b : Int) (lim : Int) wb wp = some (r_slices_pdqsortCmpFunc_int.enc d'.toList) ∧ PermIn a b d d' ∧ SortedIn lt a b d'

theorem c_pdq {n : Nat} (h : PdqOk (cp := cp) lt P n) (a b : Nat) (d : Array Int) (lim : Nat) (h1 : b - a < n) (h2 : a ≤ b) (h3 : b ≤ d.size) (h4 : d.size < 50) (hP : AllA P d) (hB : Below lt a b d) (hl : lim ≤ 100) :
    ∃ d', cw f_slices_pdqsortCmpFunc_int [rA d, I (a : Int), I (b : Int), I (lim : Int), .fn f_severity_Rank_1 [.fa 2 (List.map dGRatio.enc cp)]] (mA d) = some (r_slices_pdqsortCmpFunc_int.enc d'.toList) ∧ PermIn a b d d' ∧ SortedIn lt a b d' := by
  obtain ⟨d', g1, g2⟩ := h a b d d.toList lim true true h1 h2 h3 h4 (by simp) hP hB hl
  exact ⟨d', e_slices_pdqsortCmpFunc_int d.toList _ _ _ cp g1, g2⟩

set_option maxHeartbeats 1000000 in
theorem k_1020 (hc : Cmp cp lt P) (hW : SWO lt) (a0 : List Int) (a b m lim : Nat) (d : Array Int) (wb wp : Bool) (hI : PdqOk (cp := cp) lt P (b - a)) (hab : a + 1 < b) (hb : b ≤ d.size) (hs : d.size < 50) (hn : a0.length = d.size) (hP : AllA P d) (hB : Below lt a b d) (hm : a ≤ m) (hm2 : m < b) (hl : lim ≤ 100) :
    ∃ d', k_slices_pdqsortCmpFunc_int_1020 a0 cp (a : Int) (b : Int) wb wp (Er d) (lim : Int) (m : Int) = some (r_slices_pdqsortCmpFunc_int.enc d'.toList) ∧ PermIn a b d d' ∧ SortedIn lt a b d' := by
  obtain ⟨flag, hp⟩ := c_partition hc d a b m hP hm hm2 hb (by omega) hab
  have hperm : PermIn a b d (partition lt d a b m).2.2 := (partition_holds lt hW d a b m hm hm2 hb).2.2.1
  generalize hx : partition lt d a b m = r at hp hperm
  obtain ⟨mid, ap, d4⟩ := r
  obtain ⟨q1, q2, q3, q4, q5, q6, q7⟩ := round_part hW (partition_holds lt) hm hm2 hb hB hx
  dsimp only at hp hperm
  have hP4 : AllA P d4 := hP.perm (by omega) hb hperm
  have e1 : w64 ((mid : Int) - (a : Int)) = ((mid - a : Nat) : Int) := by rw [w64_id (by omega) (by omega)]; omega
  have e2 : w64 ((b : Int) - (mid : Int)) = ((b - mid : Nat) : Int) := by rw [w64_id (by omega) (by omega)]; omega
  by_cases hlt : mid - a < b - mid
  · obtain ⟨L, g1, g2, g3⟩ := c_pdq hI a mid d4 lim (by omega) q1 (by omega) (by omega) hP4 q4 hl
    obtain ⟨hBL, hR⟩ := q6 L g2 g3
    have hLs : L.size = d4.size := g2.1
    obtain ⟨R, r1, r2, r3⟩ := hI (mid + 1) b L a0 lim (decide (w64 ((w64 ((b : Int) - (a : Int))).tdiv 8) ≤ w64 ((mid : Int) - (a : Int)))) flag (by omega) (by omega) (by omega) (by omega) (by omega) (hP4.perm q1 (by omega) g2) hBL hl
    obtain ⟨z1, z2⟩ := hR R r2 r3
    refine ⟨R, t_slices_pdqsortCmpFunc_int_1020 _ cp _ _ _ _ _ _ _ ?_, z1, z2⟩
    rw [row_eq hn, callD_of hp, chk_pos (by omega)]
    dsimp only
    rw [show rA d = rA d4 from by rw [rA, rA, lenE, lenE, q3], brn_dec, if_pos (by rw [e1, e2]; omega), callD_of g1, up1 (by omega)]
    exact r1
  · obtain ⟨L, g1, g2, g3⟩ := c_pdq hI (mid + 1) b d4 lim (by omega) (by omega) (by omega) (by omega) hP4 q5 hl
    obtain ⟨hBL, hR⟩ := q7 L g2 g3
    have hLs : L.size = d4.size := g2.1
    obtain ⟨R, r1, r2, r3⟩ := hI a mid L a0 lim (decide (w64 ((w64 ((b : Int) - (a : Int))).tdiv 8) ≤ w64 ((b : Int) - (mid : Int)))) flag (by omega) (by omega) (by omega) (by omega) (by omega) (hP4.perm (by omega) (by omega) g2) hBL hl
    obtain ⟨z1, z2⟩ := hR R r2 r3
    refine ⟨R, t_slices_pdqsortCmpFunc_int_1020 _ cp _ _ _ _ _ _ _ ?_, z1, z2⟩
    rw [row_eq hn, callD_of hp, chk_pos (by omega)]
    dsimp only
    rw [show rA d = rA d4 from by rw [rA, rA, lenE, lenE, q3], brn_dec, if_neg (by rw [e1, e2]; omega), up1 (by omega), callD_of g1]
    exact r1

theorem k_1017 (hc : Cmp cp lt P) (hW : SWO lt) (a0 : List Int) (a b m lim : Nat) (d : Array Int) (wb wp : Bool) (hI : PdqOk (cp := cp) lt P (b - a)) (hab : a + 1 < b) (hb : b ≤ d.size) (hs : d.size < 50) (hn : a0.length = d.size) (hP : AllA P d) (hB : Below lt a b d) (hm : a ≤ m) (hm2 : m < b) (hl : lim ≤ 100) :
    ∃ d', k_slices_pdqsortCmpFunc_int_1017 a0 cp (a : Int) (b : Int) wb wp (Er d) (lim : Int) (m : Int) = some (r_slices_pdqsortCmpFunc_int.enc d'.toList) ∧ PermIn a b d d' ∧ SortedIn lt a b d' := by
  by_cases ha : 0 < a
  · cases hlt : lt d[a - 1]! d[m]! with
    | false =>
      have hp := c_partitionEqual hc d a b m hP hm hm2 hb (by omega)
      generalize hx : partitionEqual lt d a b m = r at hp
      obtain ⟨mid, d4⟩ := r
      obtain ⟨q1, q2, q3, q4, q5⟩ := round_eq hW (partitionEqual_holds lt) ha hm hm2 hb hB hlt hx
      have hge : ∀ i, a ≤ i → i < b → lt d[i]! d[m]! = false := fun i hi hi' => by
        rcases hB with h0 | hB
        · omega
        · exact hW.ntrans _ _ _ (hB i hi hi') hlt
      have hperm : PermIn a b d (partitionEqual lt d a b m).2 := (partitionEqual_holds lt hW d a b m hm hm2 hb hge).2.2.1
      rw [hx] at hperm
      dsimp only at hp hperm
      obtain ⟨R, r1, r2, r3⟩ := hI mid b d4 a0 lim wb wp (by omega) q2 (by omega) (by omega) (by omega) (hP.perm (by omega) hb hperm) q4 hl
      obtain ⟨z1, z2⟩ := q5 R r2 r3
      refine ⟨R, t_slices_pdqsortCmpFunc_int_1017 _ cp _ _ _ _ _ _ _ ?_, z1, z2⟩
      rw [row_eq hn, List.length_map, brn_dec, if_pos (by omega), dn1 (by omega) (by omega), rdA hn (by omega), rdA hn (by omega), hc.stepN (hP _ (by omega)) (hP _ (by omega)), hlt, brn_false, callD_of hp]
      exact r1
    | true =>
      obtain ⟨R, r1, r2⟩ := k_1020 hc hW a0 a b m lim d wb wp hI hab hb hs hn hP hB hm hm2 hl
      refine ⟨R, t_slices_pdqsortCmpFunc_int_1017 _ cp _ _ _ _ _ _ _ ?_, r2⟩
      rw [row_eq hn, List.length_map, brn_dec, if_pos (by omega), dn1 (by omega) (by omega), rdA hn (by omega), rdA hn (by omega), hc.stepN (hP _ (by omega)) (hP _ (by omega)), hlt, brn_true]
      exact r1
  · obtain ⟨R, r1, r2⟩ := k_1020 hc hW a0 a b m lim d wb wp hI hab hb hs hn hP hB hm hm2 hl
    refine ⟨R, t_slices_pdqsortCmpFunc_int_1017 _ cp _ _ _ _ _ _ _ ?_, r2⟩
    rw [brn_dec, if_neg (by omega)]
    exact r1

theorem k_1017v1 (hc : Cmp cp lt P) (hW : SWO lt) (a0 : List Int) (a b m lim : Nat) (d : Array Int) (wb wp : Bool) (hI : PdqOk (cp := cp) lt P (b - a)) (hab : a + 1 < b) (hb : b ≤ d.size) (hs : d.size < 50) (hn : a0.length = d.size) (hP : AllA P d) (hB : Below lt a b d) (hm : a ≤ m) (hm2 : m < b) (hl : lim ≤ 100) :
    ∃ d', k_slices_pdqsortCmpFunc_int_1017v1 a0 cp (a : Int) (b : Int) wb wp (Er d) (lim : Int) (m : Int) = some (r_slices_pdqsortCmpFunc_int.enc d'.toList) ∧ PermIn a b d d' ∧ SortedIn lt a b d' := by
  by_cases ha : 0 < a
  · cases hlt : lt d[a - 1]! d[m]! with
    | false =>
      have hp := c_partitionEqual hc d a b m hP hm hm2 hb (by omega)
      generalize hx : partitionEqual lt d a b m = r at hp
      obtain ⟨mid, d4⟩ := r
      obtain ⟨q1, q2, q3, q4, q5⟩ := round_eq hW (partitionEqual_holds lt) ha hm hm2 hb hB hlt hx
      have hge : ∀ i, a ≤ i → i < b → lt d[i]! d[m]! = false := fun i hi hi' => by
        rcases hB with h0 | hB
        · omega
        · exact hW.ntrans _ _ _ (hB i hi hi') hlt
      have hperm : PermIn a b d (partitionEqual lt d a b m).2 := (partitionEqual_holds lt hW d a b m hm hm2 hb hge).2.2.1
      rw [hx] at hperm
      dsimp only at hp hperm
      obtain ⟨R, r1, r2, r3⟩ := hI mid b d4 a0 lim wb wp (by omega) q2 (by omega) (by omega) (by omega) (hP.perm (by omega) hb hperm) q4 hl
      obtain ⟨z1, z2⟩ := q5 R r2 r3
      refine ⟨R, t_slices_pdqsortCmpFunc_int_1017v1 _ cp _ _ _ _ _ _ _ ?_, z1, z2⟩
      rw [row_eq hn, List.length_map, brn_dec, if_pos (by omega), dn1 (by omega) (by omega), rdA hn (by omega), rdA hn (by omega), hc.stepN (hP _ (by omega)) (hP _ (by omega)), hlt, brn_false, callD_of hp]
      exact r1
    | true =>
      obtain ⟨R, r1, r2⟩ := k_1020 hc hW a0 a b m lim d wb wp hI hab hb hs hn hP hB hm hm2 hl
      refine ⟨R, t_slices_pdqsortCmpFunc_int_1017v1 _ cp _ _ _ _ _ _ _ ?_, r2⟩
      rw [row_eq hn, List.length_map, brn_dec, if_pos (by omega), dn1 (by omega) (by omega), rdA hn (by omega), rdA hn (by omega), hc.stepN (hP _ (by omega)) (hP _ (by omega)), hlt, brn_true]
      exact r1
  · obtain ⟨R, r1, r2⟩ := k_1020 hc hW a0 a b m lim d wb wp hI hab hb hs hn hP hB hm hm2 hl
    refine ⟨R, t_slices_pdqsortCmpFunc_int_1017v1 _ cp _ _ _ _ _ _ _ ?_, r2⟩
    rw [brn_dec, if_neg (by omega)]
    exact r1

theorem k_1015 (hc : Cmp cp lt P) (hW : SWO lt) (a0 : List Int) (a b m lim : Nat) (d : Array Int) (wb wp : Bool) (hI : PdqOk (cp := cp) lt P (b - a)) (hab : a + 1 < b) (hb : b ≤ d.size) (hs : d.size < 50) (hn : a0.length = d.size) (hP : AllA P d) (hB : Below lt a b d) (hm : a ≤ m) (hm2 : m < b) (hl : lim ≤ 100) :
    ∃ d', k_slices_pdqsortCmpFunc_int_1015 a0 cp (a : Int) (b : Int) wb wp (Er d) (lim : Int) (m : Int) = some (r_slices_pdqsortCmpFunc_int.enc d'.toList) ∧ PermIn a b d d' ∧ SortedIn lt a b d' := by
  obtain ⟨R, r1, r2⟩ := k_1017 hc hW a0 a b m lim d wb wp hI hab hb hs hn hP hB hm hm2 hl
  obtain ⟨R', r1', r2'⟩ := k_1017v1 hc hW a0 a b m lim d wb wp hI hab hb hs hn hP hB hm hm2 hl
  obtain ⟨f, hf, hfs⟩ := c_trial hc hW d a b hP (by omega) hb hs
  have hU := fun y => t_slices_pdqsortCmpFunc_int_1015 a0 cp (a : Int) (b : Int) wb wp (Er d) (lim : Int) (m : Int) (y := y)
  rw [row_eq hn, callD_of hf, r1'] at hU
  dsimp only at hU
  rw [r1] at hU
  cases wb with
  | false => exact ⟨R', hU _ rfl, r2'⟩
  | true =>
    cases wp with
    | false => exact ⟨R', hU _ rfl, r2'⟩
    | true =>
      rw [brn_true, brn_true] at hU
      cases hh : ((1 : Nat) == 1) with
      | false =>
        rw [hh, brn_false] at hU
        exact ⟨R', hU _ rfl, r2'⟩
      | true =>
        rw [hh, brn_true] at hU
        cases f with
        | false => exact ⟨R, hU _ rfl, r2⟩
        | true => exact ⟨d, hU _ rfl, permIn_refl _ _ _, hfs rfl⟩

theorem k_1015v1 (hc : Cmp cp lt P) (hW : SWO lt) (a0 : List Int) (a b m lim : Nat) (d : Array Int) (wb wp : Bool) (h : Int) (hI : PdqOk (cp := cp) lt P (b - a)) (hab : a + 1 < b) (hb : b ≤ d.size) (hs : d.size < 50) (hn : a0.length = d.size) (hP : AllA P d) (hB : Below lt a b d) (hm : a ≤ m) (hm2 : m < b) (hl : lim ≤ 100) :
    ∃ d', k_slices_pdqsortCmpFunc_int_1015v1 a0 cp (a : Int) (b : Int) wb wp (Er d) (lim : Int) (m : Int) h = some (r_slices_pdqsortCmpFunc_int.enc d'.toList) ∧ PermIn a b d d' ∧ SortedIn lt a b d' := by
  obtain ⟨R, r1, r2⟩ := k_1017 hc hW a0 a b m lim d wb wp hI hab hb hs hn hP hB hm hm2 hl
  obtain ⟨R', r1', r2'⟩ := k_1017v1 hc hW a0 a b m lim d wb wp hI hab hb hs hn hP hB hm hm2 hl
  obtain ⟨f, hf, hfs⟩ := c_trial hc hW d a b hP (by omega) hb hs
  have hU := fun y => t_slices_pdqsortCmpFunc_int_1015v1 a0 cp (a : Int) (b : Int) wb wp (Er d) (lim : Int) (m : Int) h (y := y)
  rw [row_eq hn, callD_of hf, r1'] at hU
  dsimp only at hU
  rw [r1] at hU
  cases wb with
  | false => exact ⟨R', hU _ rfl, r2'⟩
  | true =>
    cases wp with
    | false => exact ⟨R', hU _ rfl, r2'⟩
    | true =>
      rw [brn_true, brn_true] at hU
      cases hh : (h == 1) with
      | false =>
        rw [hh, brn_false] at hU
        exact ⟨R', hU _ rfl, r2'⟩
      | true =>
        rw [hh, brn_true] at hU
        cases f with
        | false => exact ⟨R, hU _ rfl, r2⟩
        | true => exact ⟨d, hU _ rfl, permIn_refl _ _ _, hfs rfl⟩

theorem k_1010 (hc : Cmp cp lt P) (hW : SWO lt) (a0 : List Int) (a b lim : Nat) (d : Array Int) (wb wp : Bool) (hI : PdqOk (cp := cp) lt P (b - a)) (hab : a + 1 < b) (hb : b ≤ d.size) (hs : d.size < 50) (hn : a0.length = d.size) (hP : AllA P d) (hB : Below lt a b d) (hl : lim ≤ 100) (hl1 : 1 ≤ lim) :
    ∃ d', k_slices_pdqsortCmpFunc_int_1010 a0 cp (a : Int) (b : Int) (lim : Int) wb wp d.toList = some (r_slices_pdqsortCmpFunc_int.enc d'.toList) ∧ PermIn a b d d' ∧ SortedIn lt a b d' := by
  obtain ⟨m, h, hp, hm, hm2, hh⟩ := c_choosePivot hc d hP a b (by omega) hb (by omega)
  have hU := fun y => t_slices_pdqsortCmpFunc_int_1010 a0 cp (a : Int) (b : Int) (lim : Int) wb wp d.toList (y := y)
  have ht : List.take ((List.map dI_i64.enc a0).length) (List.map dI_i64.enc d.toList) = Er d := List.take_of_length_le (by simp [hn])
  rw [chk_pos (by simp [hn]), ht, callD_of hp, row_eq hn] at hU
  dsimp only at hU
  by_cases h2 : h = 2
  · have hr := c_reverse (cp := cp) d a b (by omega) hb (by omega)
    have hrp := reverseRange_holds d a b (by omega) hb
    have e : w64 (w64 ((b : Int) - 1) - w64 ((m : Int) - (a : Int))) = ((b - 1 - (m - a) : Nat) : Int) := by
      rw [w64_id (n := (b : Int) - 1) (by omega) (by omega), w64_id (n := (m : Int) - a) (by omega) (by omega), w64_id (by omega) (by omega)]; omega
    obtain ⟨R, r1, r2, r3⟩ := k_1015 hc hW a0 a b (b - 1 - (m - a)) (lim - 1) (reverseRange d a b) wb wp hI hab (by rw [hrp.1]; exact hb) (by rw [hrp.1]; exact hs) (by rw [hrp.1]; exact hn) (hP.perm (by omega) hb hrp) (hB.perm hb hrp) (by omega) (by omega) (by omega)
    rw [h2, callD_of hr, e] at hU
    refine ⟨R, hU _ ?_, permIn_trans _ _ _ _ _ hrp r2, r3⟩
    show k_slices_pdqsortCmpFunc_int_1015 a0 cp (a : Int) (b : Int) wb wp (Er (reverseRange d a b)) _ _ = _
    rw [dn1 hl1 (by omega)]
    exact r1
  · obtain ⟨R, r1, r2⟩ := k_1015v1 hc hW a0 a b m (lim - 1) d wb wp h hI hab hb hs hn hP hB hm hm2 (by omega)
    rw [beq_false_of_ne h2, brn_false] at hU
    refine ⟨R, hU _ ?_, r2⟩
    rw [dn1 hl1 (by omega)]
    exact r1

theorem k_1010v1 (hc : Cmp cp lt P) (hW : SWO lt) (a0 : List Int) (a b lim : Nat) (d : Array Int) (wb wp : Bool) (hI : PdqOk (cp := cp) lt P (b - a)) (hab : a + 1 < b) (hb : b ≤ d.size) (hs : d.size < 50) (hn : a0.length = d.size) (hP : AllA P d) (hB : Below lt a b d) (hl : lim ≤ 100) :
    ∃ d', k_slices_pdqsortCmpFunc_int_1010v1 a0 cp (Er d) (a : Int) (b : Int) (lim : Int) wb wp = some (r_slices_pdqsortCmpFunc_int.enc d'.toList) ∧ PermIn a b d d' ∧ SortedIn lt a b d' := by
  obtain ⟨m, h, hp, hm, hm2, hh⟩ := c_choosePivot hc d hP a b (by omega) hb (by omega)
  have hU := fun y => t_slices_pdqsortCmpFunc_int_1010v1 a0 cp (Er d) (a : Int) (b : Int) (lim : Int) wb wp (y := y)
  have ht : List.take ((List.map dI_i64.enc a0).length) (List.map dI_i64.enc d.toList) = Er d := List.take_of_length_le (by simp [hn])
  rw [chk_pos (by simp [hn]), ht, callD_of hp, row_eq hn] at hU
  dsimp only at hU
  by_cases h2 : h = 2
  · have hr := c_reverse (cp := cp) d a b (by omega) hb (by omega)
    have hrp := reverseRange_holds d a b (by omega) hb
    have e : w64 (w64 ((b : Int) - 1) - w64 ((m : Int) - (a : Int))) = ((b - 1 - (m - a) : Nat) : Int) := by
      rw [w64_id (n := (b : Int) - 1) (by omega) (by omega), w64_id (n := (m : Int) - a) (by omega) (by omega), w64_id (by omega) (by omega)]; omega
    obtain ⟨R, r1, r2, r3⟩ := k_1015 hc hW a0 a b (b - 1 - (m - a)) (lim) (reverseRange d a b) wb wp hI hab (by rw [hrp.1]; exact hb) (by rw [hrp.1]; exact hs) (by rw [hrp.1]; exact hn) (hP.perm (by omega) hb hrp) (hB.perm hb hrp) (by omega) (by omega) (by omega)
    rw [h2, callD_of hr, e] at hU
    refine ⟨R, hU _ ?_, permIn_trans _ _ _ _ _ hrp r2, r3⟩
    show k_slices_pdqsortCmpFunc_int_1015 a0 cp (a : Int) (b : Int) wb wp (Er (reverseRange d a b)) _ _ = _
    exact r1
  · obtain ⟨R, r1, r2⟩ := k_1015v1 hc hW a0 a b m (lim) d wb wp h hI hab hb hs hn hP hB hm hm2 (by omega)
    rw [beq_false_of_ne h2, brn_false] at hU
    refine ⟨R, hU _ ?_, r2⟩
    exact r1

theorem k_pdq (hc : Cmp cp lt P) (hW : SWO lt) : ∀ n, PdqOk (cp := cp) lt P n := by
  intro n
  induction n with
  | zero => intro a b d a0 lim wb wp h; omega
  | succ n ih =>
    intro a b d a0 lim wb wp h hab hb hs hn hP hB hl
    have hI : PdqOk (cp := cp) lt P (b - a) := fun a' b' d' a0' lim' wb' wp' h' => ih a' b' d' a0' lim' wb' wp' (by omega)
    have e0 : w64 ((b : Int) - (a : Int)) = ((b - a : Nat) : Int) := by rw [w64_id (by omega) (by omega)]; omega
    by_cases h12 : b - a ≤ 12
    · have hi := insertionSort_holds hW d a b hab hb
      refine ⟨insertionSort lt d a b, t_slices_pdqsortCmpFunc_int_1 _ cp _ _ _ _ _ _ ?_, hi.1, hi.2⟩
      rw [e0, brn_dec, if_pos (by omega), row_eq hn, callD_of (c_insertion hc d a b hP hab hb (by omega))]
    · by_cases h0 : lim = 0
      · have hi := heapSort_holds hW d a b hab hb
        refine ⟨heapSort lt d a b, t_slices_pdqsortCmpFunc_int_1 _ cp _ _ _ _ _ _ ?_, hi.1, hi.2⟩
        rw [e0, brn_dec, if_neg (by omega), h0, row_eq hn, callD_of (c_heap hc d a b hP (by omega) hb (by omega))]
        rfl
      · cases wb with
        | false =>
          obtain ⟨d1, g1, g2⟩ := c_break (cp := cp) d a b hab hb hs
          have hs1 : d1.size = d.size := g2.1
          obtain ⟨R, r1, r2, r3⟩ := k_1010 hc hW a0 a b lim d1 false wp hI (by omega) (by omega) (by omega) (by omega) (hP.perm hab hb g2) (hB.perm hb g2) hl (by omega)
          refine ⟨R, t_slices_pdqsortCmpFunc_int_1 _ cp _ _ _ _ _ _ ?_, permIn_trans _ _ _ _ _ g2 r2, r3⟩
          rw [e0, brn_dec, if_neg (by omega), beq_false_of_ne (by omega), brn_false, Bool.not_false, brn_true, row_eq hn, callD_of g1]
          exact r1
        | true =>
          obtain ⟨R, r1, r2, r3⟩ := k_1010v1 hc hW a0 a b lim d true wp hI (by omega) (by omega) (by omega) (by omega) hP hB hl
          refine ⟨R, t_slices_pdqsortCmpFunc_int_1 _ cp _ _ _ _ _ _ ?_, r2, r3⟩
          rw [e0, brn_dec, if_neg (by omega), beq_false_of_ne (by omega), brn_false, Bool.not_true, brn_false]
          exact r1

/-- the whole: the array becomes a sorted one of the same elements -/
theorem c_SortFunc (hc : Cmp cp lt P) (hW : SWO lt) (l : List Int) (hP : ∀ x ∈ l, P x) (hs : l.length < 50) :
    ∃ l' : List Int, cw f_slices_SortFunc_int_int [.row 1000 1 0 (List.map dI_i64.enc l).length, .fn f_severity_Rank_1 [.fa 2 (List.map dGRatio.enc cp)]] [(1000, ⟨1, ty_i64_2, List.map dI_i64.enc l, false⟩)] = some (r_slices_SortFunc_int_int.enc l') ∧ l'.Perm l ∧ l'.Pairwise (fun x y => lt y x = false) := by
  have hPA : AllA P l.toArray := by
    intro i hi
    have : l.toArray[i]! = l[i]'(by simpa using hi) := by
      rw [getElem!_pos l.toArray i hi]; simp
    rw [this]
    exact hP _ (List.getElem_mem _)
  have hsz : l.toArray.size = l.length := by simp
  obtain ⟨d', g1, g2, g3⟩ := c_pdq (k_pdq hc hW 50) 0 l.length l.toArray (bitsLen l.length) (by omega) (by omega) (by omega) (by omega) hPA (Or.inl rfl) (by have := bitsLen_le6 hs; omega)
  refine ⟨d'.toList, e_slices_SortFunc_int_int l cp ?_, ?_, ?_⟩
  · rw [List.length_map, wu64_id (by omega) (by omega), callD_of (c_Len l.length hs)]
    have hr : rA l.toArray = AV.row 1000 1 0 l.length := by simp [rA]
    rw [hr] at g1
    rw [show ((0 : Nat) : Int) = 0 from rfl] at g1
    rw [callD_of g1]
  · have h := g2.2.2
    have e1 : d'.extract 0 l.length = d' := by
      have : d'.size = l.length := by rw [g2.1]; simp
      rw [← this]; simp
    have e2 : l.toArray.extract 0 l.length = l.toArray := by simp
    rw [e1, e2] at h
    simpa using h
  · have hd : d'.size = l.length := by rw [g2.1]; simp
    rw [List.pairwise_iff_getElem]
    intro i j hi hj hij
    have hi' : i < d'.size := by simpa using hi
    have hj' : j < d'.size := by simpa using hj
    have := g3 i j (by omega) hij (by omega)
    rw [getElem!_pos d' i hi', getElem!_pos d' j hj'] at this
    simpa using this
end
end Go.Proofs.Ytohpjbokhcifbaa

