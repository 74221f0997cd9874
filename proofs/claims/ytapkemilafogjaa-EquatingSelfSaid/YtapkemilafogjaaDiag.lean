/- Conversion: two curves that make the line x, with the conditions of each step. -/
import Derived.Test.YtapkemilafogjaaComp
import Derived.Test.YtapkemilafogjaaPureJ
namespace Go.Proofs.Ytapkemilafogjaa
open Go.Ab Go.Pure Go.Sort
set_option linter.unusedVariables false

/-! ## an ascending list of given members -/
def insR (x : Rat) : List Rat → List Rat
  | [] => [x]
  | y :: r => if x < y then x :: y :: r else if x = y then y :: r else y :: insR x r

theorem insR_mem (x z : Rat) : ∀ l, z ∈ insR x l ↔ z = x ∨ z ∈ l
  | [] => by simp [insR]
  | y :: r => by
    have := insR_mem x z r
    unfold insR
    split
    · simp
    · split
      · rename_i h; subst h; simp
      · simp only [List.mem_cons, this]; grind

theorem insR_asc (x : Rat) : ∀ l, l.Pairwise (· < ·) → (insR x l).Pairwise (· < ·)
  | [], _ => by simp [insR]
  | y :: r, h => by
    rw [List.pairwise_cons] at h
    unfold insR
    split
    · rename_i hx
      rw [List.pairwise_cons, List.pairwise_cons]
      refine ⟨fun z hz => ?_, h⟩
      rcases List.mem_cons.1 hz with rfl | hz
      · exact hx
      · have := h.1 z hz; grind
    · split
      · rw [List.pairwise_cons]; exact h
      · rw [List.pairwise_cons]
        refine ⟨fun z hz => ?_, insR_asc x r h.2⟩
        rcases (insR_mem x z r).1 hz with rfl | hz
        · grind
        · exact h.1 z hz

theorem insR_len (x : Rat) : ∀ l, (insR x l).length ≤ l.length + 1
  | [] => by simp [insR]
  | y :: r => by
    have := insR_len x r
    unfold insR
    split
    · simp
    · split <;> simp <;> omega

theorem asc_list : ∀ rs : List Rat, ∃ xs : List Rat, xs.Pairwise (· < ·) ∧ (∀ x, x ∈ xs ↔ x ∈ rs) ∧ xs.length ≤ rs.length
  | [] => ⟨[], by simp, by simp, by simp⟩
  | r :: rs => by
    obtain ⟨xs, h1, h2, h3⟩ := asc_list rs
    refine ⟨insR r xs, insR_asc r xs h1, fun x => ?_, by have := insR_len r xs; simp; omega⟩
    rw [insR_mem, h2, List.mem_cons]

theorem two_mem {xs : List Rat} {a b : Rat} (ha : a ∈ xs) (hb : b ∈ xs) (h : a ≠ b) : 2 ≤ xs.length := by
  match xs, ha, hb with
  | [x], ha, hb => simp at ha hb; exact absurd (ha.trans hb.symm) h
  | x :: y :: r, _, _ => simp

def idL : List Pt := [(0, 0), (1, 1)]
theorem lineE : ([((0 : Rat), ((0 : Int) : Rat)), ((1 : Rat), ((1 : Int) : Rat) + ((0 : Int) : Rat))] : List Pt) = idL := by kernel_rfl
theorem idL_asc : Asc idL := by unfold idL Asc; simp; decide
theorem idL_cv (x : Rat) : cv idL x = x := by unfold idL; rw [cv_two]; unfold ln sl; grind
theorem idL_nf : nf idL = idL := by kernel_rfl
theorem idL_bn : bn idL = [] := by kernel_rfl

theorem d_one : Bd 0 0 (1 : Rat) := ⟨by decide, by decide⟩
theorem d_zero : Bd 0 0 (0 : Rat) := ⟨by decide, by decide⟩

/-- two neighbours on the diagonal -/
def PairOk (u v : Rat) : Prop := SlOk (u, u) (v, v) ∧ EvOk (u, u) (v, v) 0 ∧ EvOk (u, u) (v, v) 1

theorem pairOk {u v : Rat} {n d n' d' N D : Nat} (huv : u < v) (hu : Bd n d u) (hv : Bd n' d' v) (hd : Bd N D (v - u)) (h1 : n + d' + 1 ≤ 60) (h2 : n' + d + 1 ≤ 60) (h3 : d + d' ≤ 60) (h4 : N + D ≤ 60) (h5 : n + d + 2 ≤ 60) (h6 : 2 * d + 2 ≤ 60) : PairOk u v := by
  have hs : sl (u, u) (v, v) = 1 := by unfold sl; dsimp only; rw [Rat.div_def]; have : v - u ≠ 0 := by grind
                                       exact Rat.mul_inv_cancel _ this
  have hsl : SlOk (u, u) (v, v) := ⟨AddOk.mk hv hu (by omega) (by omega) (by omega), AddOk.mk hv hu (by omega) (by omega) (by omega), DivOk.mk (by dsimp only; grind) hd hd (by omega) (by omega)⟩
  have ev : ∀ x : Rat, Bd 0 0 x → EvOk (u, u) (v, v) x := fun x hx => by
    have b1 : Bd (max n d + 1) d (x - u) := hx.sub hu (by omega) (by omega) (by omega)
    have b2 : Bd (max n d + 1) d ((x - u) * sl (u, u) (v, v)) := by rw [hs, Rat.mul_one]; exact b1
    exact ⟨hsl, AddOk.mk hx hu (by omega) (by omega) (by omega), MulOk.mk b1 (hs ▸ d_one) (by omega) (by omega), AddOk.mk hu b2 (by omega) (by omega) (by omega)⟩
  exact ⟨hsl, ev 0 d_zero, ev 1 d_one⟩

/-- the conditions of two curves that make the line x -/
structure DiagOk (f g : List Pt) : Prop where
  fa : Asc f
  fl : 2 ≤ f.length
  fv : AllV f
  ga : Asc g
  gl : 2 ≤ g.length
  gv : AllV g
  len : f.length + g.length < 50
  hid : ∀ x, cv g (cv f x) = x
  inv : ∀ q ∈ g, VOk (cv (ex f) q.1) ∧ Each (ex f) fun p' q' => EvOk p' q' q.1
  xf : ∀ p ∈ f, (Each f fun p' q' => EvOk p' q' p.1) ∧ Each g fun p' q' => EvOk p' q' p.2
  xg : ∀ q ∈ g, (Each f fun p' q' => EvOk p' q' (cv (ex f) q.1)) ∧ Each g fun p' q' => EvOk p' q' q.1
  nb : ∀ u v, u < v → ((∃ p ∈ f, p.1 = u) ∨ ∃ q ∈ g, cv (ex f) q.1 = u) → ((∃ p ∈ f, p.1 = v) ∨ ∃ q ∈ g, cv (ex f) q.1 = v) → (∀ p ∈ f, p.1 ≤ u ∨ v ≤ p.1) → (∀ q ∈ g, cv (ex f) q.1 ≤ u ∨ v ≤ cv (ex f) q.1) → PairOk u v

theorem comp_diag {f g : List Pt} (h : DiagOk f g) : cw f_conversion_Compose [aC f, aC g] [] = some (r_conversion_Compose.enc (⟨idL.map ofP⟩, 0)) := by
  obtain ⟨fa, fl, fv, ga, gl, gv, len, hid, inv, xf, xg, nb⟩ := h
  obtain ⟨xs, x1, x2, x3⟩ := asc_list (f.map (·.1) ++ g.map (fun q => cv (ex f) q.1))
  have hmem : ∀ x, x ∈ xs ↔ (∃ p ∈ f, p.1 = x) ∨ ∃ q ∈ g, cv (ex f) q.1 = x := fun x => by
    rw [x2, List.mem_append, List.mem_map, List.mem_map]
  have hxl : xs.length < 50 := by simp at x3; omega
  have hx2 : 2 ≤ xs.length := by
    match f, fl, fa, hmem with
    | p :: q :: r, _, fa, hmem =>
      have h1 : p.1 ∈ xs := (hmem _).2 (.inl ⟨p, by simp, rfl⟩)
      have h2 : q.1 ∈ xs := (hmem _).2 (.inl ⟨q, by simp, rfl⟩)
      have := (pair_asc fa (i := 0) (p := p) (q := q) rfl rfl).1
      exact two_mem h1 h2 (by grind)
  have k1m : ∀ p ∈ f, p.1 ∈ xs := fun p hp => (hmem _).2 (.inl ⟨p, hp, rfl⟩)
  have k2m : ∀ q ∈ g, cv (ex f) q.1 ∈ xs := fun q hq' => (hmem _).2 (.inr ⟨q, hq', rfl⟩)
  have hc : ∀ x, cv (cps f g xs) x = x := fun x => by rw [cps_cv fa fl ga gl x1 hx2 k1m k2m, hid]
  have hca := cps_asc fa fl ga gl x1
  have hcl : (cps f g xs).length = xs.length := by simp [cps]
  have hbn : bn (cps f g xs) = [] := by
    rw [← idL_bn]
    exact canon_bn hca (by omega) idL_asc (by decide) (fun x => by rw [hc, idL_cv])
  have hnf : nf (cps f g xs) = idL := by
    rw [← idL_nf]
    exact canon hca (by omega) idL_asc (by decide) (fun x => by rw [hc, idL_cv])
  have hvx : ∀ x ∈ xs, VOk x := fun x hx => by
    rcases (hmem x).1 hx with ⟨p, hp, rfl⟩ | ⟨q, hq', rfl⟩
    · exact (fv p hp).1
    · exact (inv q hq').1
  have hpair : ∀ i p q, (cps f g xs)[i]? = some p → (cps f g xs)[i + 1]? = some q → ∃ u v, p = (u, u) ∧ q = (v, v) ∧ PairOk u v := by
    intro i p q hp hq
    have hlt := (pair_asc hca hp hq).1
    unfold cps at hp hq
    rw [List.getElem?_map] at hp hq
    obtain ⟨u, eu, rfl⟩ := Option.map_eq_some_iff.1 hp
    obtain ⟨v, ev, rfl⟩ := Option.map_eq_some_iff.1 hq
    dsimp only at hlt
    have hbet : ∀ y ∈ xs, y ≤ u ∨ v ≤ y := by
      intro y hy
      obtain ⟨j, hj, e⟩ := List.getElem_of_mem hy
      obtain ⟨hi1, e1⟩ := List.getElem?_eq_some_iff.1 eu
      obtain ⟨hi2, e2⟩ := List.getElem?_eq_some_iff.1 ev
      by_cases hc' : j ≤ i
      · left
        by_cases he : j = i
        · subst he; rw [← e, e1]; exact Rat.le_refl
        · have := List.pairwise_iff_getElem.1 x1 j i hj hi1 (by omega)
          rw [e, e1] at this; grind
      · right
        by_cases he : j = i + 1
        · subst he; rw [← e, e2]; exact Rat.le_refl
        · have := List.pairwise_iff_getElem.1 x1 (i + 1) j hi2 hj (by omega)
          rw [e, e2] at this; grind
    refine ⟨u, v, by rw [hid], by rw [hid], nb u v hlt ((hmem u).1 (List.mem_of_getElem? eu)) ((hmem v).1 (List.mem_of_getElem? ev)) (fun p hp => hbet _ (k1m p hp)) (fun q hq => hbet _ (k2m q hq))⟩
  rw [← hnf]
  exact g_Compose {
    fa := fa
    fl := fl
    fv := fv
    ga := ga
    gl := gl
    gv := gv
    len := len
    inv := inv
    pts := fun x hx => by
      rcases (hmem x).1 hx with ⟨p, hp, rfl⟩ | ⟨q, hq', rfl⟩
      · rw [ev_through fa fl p hp]
        exact ⟨(fv p hp).1, (xf p hp).1, (fv p hp).2, (xf p hp).2⟩
      · rw [ex_forth fa fl]
        exact ⟨(inv q hq').1, (xg q hq').1, (gv q hq').1, (xg q hq').2⟩
    nrm := {
      asc := hca
      len := by omega
      len2 := by omega
      vals := fun p hp => by
        unfold cps at hp
        obtain ⟨x, hx, rfl⟩ := List.mem_map.1 hp
        refine ⟨hvx x hx, ?_⟩
        show VOk (cv g (cv f x))
        rw [hid]
        exact hvx x hx
      sls := fun i p q hp hq => by
        obtain ⟨u, v, rfl, rfl, h⟩ := hpair i p q hp hq
        exact h.1
      lft := by
        rw [hbn]
        refine ⟨d_zero.mono (by omega) (by omega), fun i p q hp hq => ?_⟩
        obtain ⟨u, v, rfl, rfl, h⟩ := hpair i p q hp hq
        exact h.2.1
      rgt := by
        rw [hbn]
        refine ⟨d_one.mono (by omega) (by omega), fun i p q hp hq => ?_⟩
        obtain ⟨u, v, rfl, rfl, h⟩ := hpair i p q hp hq
        exact h.2.2
      stp := fun p hp => by rw [hbn] at hp; cases hp }
    asc := x1
    mem := hmem }
end Go.Proofs.Ytapkemilafogjaa
