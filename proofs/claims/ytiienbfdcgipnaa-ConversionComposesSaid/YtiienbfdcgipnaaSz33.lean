/- Sizes of composed curves: k drawn curves one after the other. -/
import Derived.Test.YtiienbfdcgipnaaInv33
import Derived.Test.YtiienbfdcgipnaaPureK2
namespace Go.Proofs.Ytiienbfdcgipnaa
open Go.Ab Go.Pure Go.Sort
set_option linter.unusedVariables false

/-- a curve that is made of k small ones, its places of size n, d -/
structure Cl (k n d : Nat) (l : List Pt) : Prop where
  asc : Asc l
  len : 2 ≤ l.length
  xb : ∀ p ∈ l, Bd n d p.1
  sb : ∀ t, IsSl l t → Bd (2 * k) (2 * k) t
  fb : ∀ r s x, 5 + s ≤ r → Bd r s x → Bd (r + 4 * k) (s + 2 * k) (cv l x)
  ib : ∀ r s x, 5 + s ≤ r → Bd r s x → Bd (r + 4 * k) (s + 2 * k) (cv (ex l) x)

/-- the steps' conditions -/
def EC (k n d r s : Nat) : Prop := 5 + d ≤ n ∧ n + 4 * k + (d + 2 * k) + 1 + 2 * d ≤ 60 ∧ 2 * (d + 2 * k) + n + d + 1 ≤ 60 ∧ r + d + 1 + 2 * k + (d + 2 * k) + 1 ≤ 60 ∧ n + s + 1 + 2 * k + (d + 2 * k) + 1 ≤ 60 ∧ n + 4 * k + s + d + 2 * k + 1 ≤ 60 ∧ d + 2 * k + s + d + 2 * k ≤ 60

theorem Cl.yb {k n d : Nat} {l : List Pt} (h : Cl k n d l) (hn : 5 + d ≤ n) : ∀ p ∈ l, Bd (n + 4 * k) (d + 2 * k) p.2 := fun p hp => by
  rw [← ev_through h.asc h.len p hp]
  exact h.fb n d p.1 hn (h.xb p hp)

theorem slC {k n d : Nat} {p q : Pt} (hc : EC k n d 0 0) (p1 : Bd n d p.1) (q1 : Bd n d q.1) (p2 : Bd (n + 4 * k) (d + 2 * k) p.2) (q2 : Bd (n + 4 * k) (d + 2 * k) q.2) (h : p.1 < q.1) : SlOk p q := by
  unfold EC at hc
  have b1 : Bd (n + 4 * k + (d + 2 * k) + 1) (2 * (d + 2 * k)) (q.2 - p.2) := q2.sub p2 (by omega) (by omega) (by omega)
  have b2 : Bd (n + d + 1) (2 * d) (q.1 - p.1) := q1.sub p1 (by omega) (by omega) (by omega)
  exact ⟨AddOk.mk q2 p2 (by omega) (by omega) (by omega), AddOk.mk q1 p1 (by omega) (by omega) (by omega), DivOk.mk (by grind) b1 b2 (by omega) (by omega)⟩

theorem evC {k n d r s : Nat} {l : List Pt} (h : Cl k n d l) (hc : EC k n d r s) {x : Rat} (hx : Bd r s x) : Each l fun p q => EvOk p q x := fun i p q hp hq => by
  have hc0 : EC k n d 0 0 := by unfold EC at *; omega
  unfold EC at hc
  have hy := h.yb hc.1
  have mp := List.mem_of_getElem? hp
  have mq := List.mem_of_getElem? hq
  have bs := h.sb _ ⟨i, p, q, hp, hq, rfl⟩
  have b1 : Bd (max (r + d) (n + s) + 1) (s + d) (x - p.1) := hx.sub (h.xb p mp) (by omega) (by omega) (by omega)
  have b2 : Bd (max (r + d) (n + s) + 1 + 2 * k) (s + d + 2 * k) ((x - p.1) * sl p q) := b1.mul bs (by omega) (by omega)
  exact ⟨slC hc0 (h.xb p mp) (h.xb q mq) (hy p mp) (hy q mq) (pair_asc h.asc hp hq).1, AddOk.mk hx (h.xb p mp) (by omega) (by omega) (by omega), MulOk.mk b1 bs (by omega) (by omega), AddOk.mk (hy p mp) b2 (by omega) (by omega) (by omega)⟩

theorem lfC {n d : Nat} {l : List Pt} (hd : d ≤ n) (h : ∀ p ∈ l, Bd n d p.1) : Bd (n + 1) d (lf l) ∧ Bd (n + 1) d (rt l) := by
  cases l with
  | nil => exact ⟨zero0.mono (by omega) (by omega), one0.mono (by omega) (by omega)⟩
  | cons a r => exact ⟨(h a (by simp)).sub one0 (by omega) (by omega) (by omega), (h _ (List.getLast_mem (by simp))).add one0 (by omega) (by omega) (by omega)⟩

theorem Cl.vals {k n d : Nat} {l : List Pt} (h : Cl k n d l) (hc : EC k n d 0 0) : AllV l := fun p hp => by
  have hy := h.yb hc.1 p hp
  unfold EC at hc
  exact ⟨(h.xb p hp).mono (by omega) (by omega), hy.mono (by omega) (by omega)⟩

theorem normC {k n d : Nat} {l : List Pt} (h : Cl k n d l) (hc : EC k n d (n + 1) d) (hl : l.length ≤ 410) : NormOk l := by
  have hc0 : EC k n d 0 0 := by unfold EC at *; omega
  have hb := lfC (l := bn l) (by unfold EC at hc; omega) (fun p hp => h.xb p ((bn_sub l).subset hp))
  have hy := h.yb hc.1
  have hn : n + 1 ≤ 60 ∧ d ≤ 60 := by unfold EC at hc; omega
  exact {
    asc := h.asc
    len := h.len
    len2 := hl
    vals := h.vals hc0
    sls := fun i p q hp hq => slC hc0 (h.xb p (List.mem_of_getElem? hp)) (h.xb q (List.mem_of_getElem? hq)) (hy p (List.mem_of_getElem? hp)) (hy q (List.mem_of_getElem? hq)) (pair_asc h.asc hp hq).1
    lft := ⟨hb.1.mono hn.1 hn.2, evC h hc hb.1⟩
    rgt := ⟨hb.2.mono hn.1 hn.2, evC h hc hb.2⟩
    stp := fun p hp => AddOk.mk (h.xb p ((bn_sub l).subset hp)) one0 (by omega) (by unfold EC at hc; omega) (by omega) }

theorem Cl.congr {k n d n' d' : Nat} {l m : List Pt} (h : Cl k n d l) (ha : Asc m) (hl : 2 ≤ m.length) (he : ∀ x, cv m x = cv l x) (hx : ∀ p ∈ m, Bd n' d' p.1) (hs : ∀ t, IsSl m t → Bd (2 * k) (2 * k) t) : Cl k n' d' m where
  asc := ha
  len := hl
  xb := hx
  sb := hs
  fb := fun r s x h1 h2 => by rw [he]; exact h.fb r s x h1 h2
  ib := fun r s x h1 h2 => by
    have e : cv (ex m) x = cv (ex l) x := by
      have h3 := ex_forth ha hl x
      rw [he] at h3
      have h4 := ex_back h.asc h.len (cv (ex m) x)
      rw [h3] at h4
      exact h4.symm
    rw [e]; exact h.ib r s x h1 h2

theorem Cl.nf {k n d : Nat} {l : List Pt} (h : Cl k n d l) (hd : d ≤ n) : Cl k (n + 1) d (nf l) := by
  have hb := lfC (l := bn l) hd (fun p hp => h.xb p ((bn_sub l).subset hp))
  refine h.congr (asc_nf h.asc h.len) nf_len (ev_nf h.asc h.len) (fun p hp => ?_) (fun t ht => ?_)
  · unfold Go.Pure.nf at hp
    rcases List.mem_cons.1 hp with rfl | hp
    · exact hb.1
    · rcases List.mem_append.1 hp with hp | hp
      · exact (h.xb p ((bn_sub l).subset hp)).mono (by omega) (by omega)
      · rw [List.mem_singleton.1 hp]; exact hb.2
  · obtain ⟨c, p, q, hp, hq, rfl⟩ := ht
    exact h.sb _ (nf_sl h.asc h.len hp hq)

/-- one curve after the other -/
theorem compC {k1 n1 d1 k2 n2 d2 n d : Nat} {f g : List Pt} (hf : Cl k1 n1 d1 f) (hg : Cl k2 n2 d2 g) (len : f.length + g.length < 50) (a1 : n1 ≤ n) (a2 : d1 ≤ d) (a3 : n2 + 4 * k1 ≤ n) (a4 : d2 + 2 * k1 ≤ d) (a5 : 5 + d ≤ n) (a6 : 5 + d1 ≤ n1)
    (e1 : EC k1 n1 d1 n2 d2) (e2 : EC k1 n1 d1 n d) (e3 : EC k2 n2 d2 (n1 + 4 * k1) (d1 + 2 * k1)) (e3' : EC k2 n2 d2 n2 d2) (e4 : EC (k1 + k2) n d (n + 1) d) (e5 : EC k1 (n1 + 4 * k1) (d1 + 2 * k1) n2 d2) :
    ∃ l, cw f_conversion_Compose [aC f, aC g] [] = some (r_conversion_Compose.enc (⟨l.map ofP⟩, 0)) ∧ Cl (k1 + k2) (n + 1) d l ∧ (∀ x, cv l x = cv g (cv f x)) ∧ l.length ≤ f.length + g.length := by
  have a7 := e3.1
  obtain ⟨xs, x1, x2, x3⟩ := asc_list (f.map (·.1) ++ g.map (fun q => cv (ex f) q.1))
  have hmem : ∀ x, x ∈ xs ↔ (∃ p ∈ f, p.1 = x) ∨ ∃ q ∈ g, cv (ex f) q.1 = x := fun x => by
    rw [x2, List.mem_append, List.mem_map, List.mem_map]
  have hxl : xs.length ≤ f.length + g.length := by simpa using x3
  have fa := hf.asc
  have fl := hf.len
  have ga := hg.asc
  have gl := hg.len
  have hx2 : 2 ≤ xs.length := by
    match f, fl, fa, hmem with
    | p :: q :: r, _, fa, hmem =>
      have h1 : p.1 ∈ xs := (hmem _).2 (.inl ⟨p, by simp, rfl⟩)
      have h2 : q.1 ∈ xs := (hmem _).2 (.inl ⟨q, by simp, rfl⟩)
      have := (pair_asc fa (i := 0) (p := p) (q := q) rfl rfl).1
      exact two_mem h1 h2 (by grind)
  have k1m : ∀ p ∈ f, p.1 ∈ xs := fun p hp => (hmem _).2 (.inl ⟨p, hp, rfl⟩)
  have k2m : ∀ q ∈ g, cv (ex f) q.1 ∈ xs := fun q hq' => (hmem _).2 (.inr ⟨q, hq', rfl⟩)
  have hc : ∀ x, cv (cps f g xs) x = cv g (cv f x) := cps_cv fa fl ga gl x1 hx2 k1m k2m
  have hca := cps_asc fa fl ga gl x1
  have hcl : (cps f g xs).length = xs.length := by simp [cps]
  have hbx : ∀ x ∈ xs, Bd n d x := fun x hx => by
    rcases (hmem x).1 hx with ⟨p, hp, rfl⟩ | ⟨q, hq', rfl⟩
    · exact (hf.xb p hp).mono a1 a2
    · exact (hf.ib _ _ _ a7 (hg.xb q hq')).mono a3 a4
  have hpt : ∀ x ∈ xs, VOk (cv f x) ∧ Each g fun p q => EvOk p q (cv f x) := fun x hx => by
    rcases (hmem x).1 hx with ⟨p, hp, rfl⟩ | ⟨q, hq', rfl⟩
    · rw [ev_through fa fl p hp]
      exact ⟨(hf.yb a6 p hp).mono (by unfold EC at e1; omega) (by unfold EC at e1; omega), evC hg e3 (hf.yb a6 p hp)⟩
    · rw [ex_forth fa fl]
      exact ⟨(hg.xb q hq').mono (by unfold EC at e3; omega) (by unfold EC at e3; omega), evC hg e3' (hg.xb q hq')⟩
  have hC : Cl (k1 + k2) n d (cps f g xs) := {
    asc := hca
    len := by omega
    xb := fun p hp => by
      unfold cps at hp
      obtain ⟨x, hx, rfl⟩ := List.mem_map.1 hp
      exact hbx x hx
    sb := fun t ht => by
      obtain ⟨s1, s2, h1, h2, rfl⟩ := cps_sl fa fl ga gl x1 k1m k2m ht
      exact (hf.sb s1 h1).mul (hg.sb s2 h2) (by omega) (by omega)
    fb := fun r s x h1 h2 => by
      rw [hc]
      have := hg.fb _ _ _ (by omega) (hf.fb r s x h1 h2)
      exact this.mono (by omega) (by omega)
    ib := fun r s x h1 h2 => by
      have e : cv (ex (cps f g xs)) x = cv (ex f) (cv (ex g) x) := by
        have h3 := ex_back hca (by omega) (cv (ex f) (cv (ex g) x))
        rw [hc, ex_forth fa fl, ex_forth ga gl] at h3
        exact h3
      rw [e]
      have := hf.ib _ _ _ (by omega) (hg.ib r s x h1 h2)
      exact this.mono (by omega) (by omega) }
  have hlen2 : (nf (cps f g xs)).length ≤ xs.length := by
    have := bn_len (cps f g xs) (by omega)
    unfold nf
    simp
    omega
  have hex : Cl k1 (n1 + 4 * k1) (d1 + 2 * k1) (ex f) := {
    asc := ex_asc fa
    len := by rw [ex_len]; exact fl
    xb := fun p hp => by
      unfold ex at hp
      obtain ⟨q, hq, rfl⟩ := List.mem_map.1 hp
      exact hf.yb a6 q hq
    sb := fun t ht => by
      obtain ⟨s, h1, rfl⟩ := ex_sl ht
      exact (hf.sb s h1).inv
    fb := hf.ib
    ib := fun r s x h1 h2 => by rw [ex_ex]; exact hf.fb r s x h1 h2 }
  refine ⟨nf (cps f g xs), g_Compose (xs := xs) {
    fa := fa
    fl := fl
    fv := hf.vals (by unfold EC at *; omega)
    ga := ga
    gl := gl
    gv := hg.vals (by unfold EC at *; omega)
    len := len
    inv := fun q hq' => ⟨(hf.ib _ _ _ a7 (hg.xb q hq')).mono (by unfold EC at e4; omega) (by unfold EC at e4; omega), evC hex e5 (hg.xb q hq')⟩
    pts := fun x hx => ⟨(hbx x hx).mono (by unfold EC at e4; omega) (by unfold EC at e4; omega), evC hf e2 (hbx x hx), (hpt x hx).1, (hpt x hx).2⟩
    nrm := normC hC e4 (by omega)
    asc := x1
    mem := hmem }, hC.nf (by omega), fun x => by rw [ev_nf hca (by omega), hc], by omega⟩
end Go.Proofs.Ytiienbfdcgipnaa
