/- Conversion: a curve and its inverse make the line x. -/
import Derived.Test.YtiienbfdcgipnaaComp
import Derived.Test.YtiienbfdcgipnaaPureC3
import Derived.Test.YtiienbfdcgipnaaSane33
import Derived.Test.YtiienbfdcgipnaaCurveR
namespace Go.Proofs.Ytiienbfdcgipnaa
open Go.Ab Go.Pure Go.Sort
set_option linter.unusedVariables false

/-- small fractions -/
abbrev Sm (r : Rat) : Prop := Bd 13 6 r
def SB (l : List Pt) : Prop := ∀ p ∈ l, Sm p.1 ∧ Sm p.2

theorem SB.vals {l : List Pt} (h : SB l) : AllV l := fun p hp => ⟨(h p hp).1.mono (by omega) (by omega), (h p hp).2.mono (by omega) (by omega)⟩
theorem SB.ex {l : List Pt} (h : SB l) : SB (ex l) := fun p hp => by
  unfold Go.Pure.ex at hp
  obtain ⟨q, hq, rfl⟩ := List.mem_map.1 hp
  exact ⟨(h q hq).2, (h q hq).1⟩

theorem slS {p q : Pt} (hp : Sm p.1 ∧ Sm p.2) (hq : Sm q.1 ∧ Sm q.2) (h : p.1 < q.1) : SlOk p q := by
  have b1 : Bd 20 12 (q.2 - p.2) := hq.2.sub hp.2 (by omega) (by omega) (by omega)
  have b2 : Bd 20 12 (q.1 - p.1) := hq.1.sub hp.1 (by omega) (by omega) (by omega)
  exact ⟨AddOk.mk hq.2 hp.2 (by omega) (by omega) (by omega), AddOk.mk hq.1 hp.1 (by omega) (by omega) (by omega), DivOk.mk (by grind) b1 b2 (by omega) (by omega)⟩

theorem evS {p q : Pt} {x : Rat} (hp : Sm p.1 ∧ Sm p.2) (hq : Sm q.1 ∧ Sm q.2) (h : p.1 < q.1) (hx : Sm x) : EvOk p q x := by
  have b3 : Bd 33 33 (sl p q) := (bd_sl p q hp hq).mono (by omega) (by omega)
  have b4 : Bd 20 12 (x - p.1) := hx.sub hp.1 (by omega) (by omega) (by omega)
  have b1 : Bd 20 12 (q.2 - p.2) := hq.2.sub hp.2 (by omega) (by omega) (by omega)
  have b2 : Bd 20 12 (q.1 - p.1) := hq.1.sub hp.1 (by omega) (by omega) (by omega)
  have b3' : Bd 32 32 (sl p q) := by
    unfold sl
    rw [Rat.div_def]
    exact b1.mul b2.inv (by omega) (by omega)
  have b5 : Bd 52 44 ((x - p.1) * sl p q) := b4.mul b3' (by omega) (by omega)
  exact ⟨slS hp hq h, AddOk.mk hx hp.1 (by omega) (by omega) (by omega), MulOk.mk b4 b3' (by omega) (by omega), AddOk.mk hp.2 b5 (by omega) (by omega) (by omega)⟩

theorem eachS {l : List Pt} (ha : Asc l) (h : SB l) {x : Rat} (hx : Sm x) : Each l fun p q => EvOk p q x := fun i p q hp hq =>
  evS (h p (List.mem_of_getElem? hp)) (h q (List.mem_of_getElem? hq)) (pair_asc ha hp hq).1 hx

theorem normS {l : List Pt} (ha : Asc l) (hl : 2 ≤ l.length) (hl2 : l.length ≤ 410) (h : SB l) (h1 : Sm (lf (bn l))) (h2 : Sm (rt (bn l))) : NormOk l where
  asc := ha
  len := hl
  len2 := hl2
  vals := h.vals
  sls := fun i p q hp hq => slS (h p (List.mem_of_getElem? hp)) (h q (List.mem_of_getElem? hq)) (pair_asc ha hp hq).1
  lft := ⟨h1.mono (by omega) (by omega), eachS ha h h1⟩
  rgt := ⟨h2.mono (by omega) (by omega), eachS ha h h2⟩
  stp := fun p hp => AddOk.mk (h p ((bn_sub l).subset hp)).1 (show Bd 0 0 (1 : Rat) from ⟨by decide, by decide⟩) (by omega) (by omega) (by omega)

/-! ## an ascending list of given members -/
def insR (x : Rat) : List Rat → List Rat
  | [] => [x]
  | y :: r => if x < y then x :: y :: r else if x = y then y :: r else y :: insR x r

theorem insR_mem (x z : Rat) : ∀ l, z ∈ insR x l ↔ z = x ∨ z ∈ l
  | [] => by simp [insR]
  | y :: r => by
    have := insR_mem x z r
    unfold insR
    split
    · simp
    · split
      · rename_i h; subst h; simp
      · simp only [List.mem_cons, this]; grind

theorem insR_asc (x : Rat) : ∀ l, l.Pairwise (· < ·) → (insR x l).Pairwise (· < ·)
  | [], _ => by simp [insR]
  | y :: r, h => by
    rw [List.pairwise_cons] at h
    unfold insR
    split
    · rename_i hx
      rw [List.pairwise_cons, List.pairwise_cons]
      refine ⟨fun z hz => ?_, h⟩
      rcases List.mem_cons.1 hz with rfl | hz
      · exact hx
      · have := h.1 z hz; grind
    · split
      · rw [List.pairwise_cons]; exact h
      · rw [List.pairwise_cons]
        refine ⟨fun z hz => ?_, insR_asc x r h.2⟩
        rcases (insR_mem x z r).1 hz with rfl | hz
        · grind
        · exact h.1 z hz

theorem insR_len (x : Rat) : ∀ l, (insR x l).length ≤ l.length + 1
  | [] => by simp [insR]
  | y :: r => by
    have := insR_len x r
    unfold insR
    split
    · simp
    · split <;> simp <;> omega

theorem asc_list : ∀ rs : List Rat, ∃ xs : List Rat, xs.Pairwise (· < ·) ∧ (∀ x, x ∈ xs ↔ x ∈ rs) ∧ xs.length ≤ rs.length
  | [] => ⟨[], by simp, by simp, by simp⟩
  | r :: rs => by
    obtain ⟨xs, h1, h2, h3⟩ := asc_list rs
    refine ⟨insR r xs, insR_asc r xs h1, fun x => ?_, by have := insR_len r xs; simp; omega⟩
    rw [insR_mem, h2, List.mem_cons]

theorem two_mem {xs : List Rat} {a b : Rat} (ha : a ∈ xs) (hb : b ∈ xs) (h : a ≠ b) : 2 ≤ xs.length := by
  match xs, ha, hb with
  | [x], ha, hb => simp at ha hb; exact absurd (ha.trans hb.symm) h
  | x :: y :: r, _, _ => simp

def idL : List Pt := [(0, 0), (1, 1)]
theorem lineE : ([((0 : Rat), ((0 : Int) : Rat)), ((1 : Rat), ((1 : Int) : Rat) + ((0 : Int) : Rat))] : List Pt) = idL := by kernel_rfl
theorem idL_asc : Asc idL := by unfold idL Asc; simp; decide
theorem idL_cv (x : Rat) : cv idL x = x := by unfold idL; rw [cv_two]; unfold ln sl; grind
theorem idL_nf : nf idL = idL := by kernel_rfl
theorem idL_bn : bn idL = [] := by kernel_rfl
theorem sm_int {x : Int} (h : x.natAbs ≤ 8192) : Sm (x : Rat) := (bd_int (n := 13) h).mono (by omega) (by omega)
theorem idL_sb : SB idL := fun p hp => by
  unfold idL at hp
  simp at hp
  rcases hp with rfl | rfl
  · exact ⟨sm_int (x := 0) (by decide), sm_int (x := 0) (by decide)⟩
  · exact ⟨sm_int (x := 1) (by decide), sm_int (x := 1) (by decide)⟩

/-- two curves that make the line x -/
theorem comp_id {f g : List Pt} (fa : Asc f) (fl : 2 ≤ f.length) (fb : SB f) (ga : Asc g) (gl : 2 ≤ g.length) (gb : SB g) (len : f.length + g.length < 50) (hid : ∀ x, cv g (cv f x) = x)
    (hq : ∀ q ∈ g, Sm (cv (ex f) q.1)) : cw f_conversion_Compose [aC f, aC g] [] = some (r_conversion_Compose.enc (⟨idL.map ofP⟩, 0)) := by
  obtain ⟨xs, x1, x2, x3⟩ := asc_list (f.map (·.1) ++ g.map (fun q => cv (ex f) q.1))
  have hmem : ∀ x, x ∈ xs ↔ (∃ p ∈ f, p.1 = x) ∨ ∃ q ∈ g, cv (ex f) q.1 = x := fun x => by
    rw [x2, List.mem_append, List.mem_map, List.mem_map]
  have hxl : xs.length < 50 := by simp at x3; omega
  have hx2 : 2 ≤ xs.length := by
    match f, fl, fa, hmem with
    | p :: q :: r, _, fa, hmem =>
      have h1 : p.1 ∈ xs := (hmem _).2 (.inl ⟨p, by simp, rfl⟩)
      have h2 : q.1 ∈ xs := (hmem _).2 (.inl ⟨q, by simp, rfl⟩)
      have := (pair_asc fa (i := 0) (p := p) (q := q) rfl rfl).1
      exact two_mem h1 h2 (by grind)
  have hc : ∀ x, cv (cps f g xs) x = x := fun x => by
    rw [cps_cv fa fl ga gl x1 hx2 (fun p hp => (hmem _).2 (.inl ⟨p, hp, rfl⟩)) (fun q hq' => (hmem _).2 (.inr ⟨q, hq', rfl⟩)), hid]
  have hca := cps_asc fa fl ga gl x1
  have hcl : (cps f g xs).length = xs.length := by simp [cps]
  have hpt : ∀ x ∈ xs, Sm x ∧ Sm (cv f x) := fun x hx => by
    rcases (hmem x).1 hx with ⟨p, hp, rfl⟩ | ⟨q, hq', rfl⟩
    · exact ⟨(fb p hp).1, by rw [ev_through fa fl p hp]; exact (fb p hp).2⟩
    · exact ⟨hq q hq', by rw [ex_forth fa fl]; exact (gb q hq').1⟩
  have hbn : bn (cps f g xs) = [] := by
    rw [← idL_bn]
    exact canon_bn hca (by omega) idL_asc (by decide) (fun x => by rw [hc, idL_cv])
  have hnf : nf (cps f g xs) = idL := by
    rw [← idL_nf]
    exact canon hca (by omega) idL_asc (by decide) (fun x => by rw [hc, idL_cv])
  have hsb : SB (cps f g xs) := fun p hp => by
    unfold cps at hp
    obtain ⟨x, hx, rfl⟩ := List.mem_map.1 hp
    refine ⟨(hpt x hx).1, ?_⟩
    show Sm (cv g (cv f x))
    rw [hid]
    exact (hpt x hx).1
  rw [← hnf]
  exact g_Compose {
    fa := fa
    fl := fl
    fv := fb.vals
    ga := ga
    gl := gl
    gv := gb.vals
    len := len
    inv := fun q hq' => ⟨(hq q hq').mono (by omega) (by omega), eachS (ex_asc fa) fb.ex (gb q hq').1⟩
    pts := fun x hx => ⟨(hpt x hx).1.mono (by omega) (by omega), eachS fa fb (hpt x hx).1, (hpt x hx).2.mono (by omega) (by omega), eachS ga gb (hpt x hx).2⟩
    nrm := normS hca (by omega) (by omega) hsb (by rw [hbn]; exact sm_int (x := 0) (by decide)) (by rw [hbn]; exact sm_int (x := 1) (by decide))
    asc := x1
    mem := hmem }

/-! ## the inverse of a drawn curve -/
theorem sl5 {l : List Pt} (hb : PB 5 0 5 0 l) {t : Rat} (h : IsSl l t) : Bd 6 6 t := by
  obtain ⟨c, p, q, hp, hq, rfl⟩ := h
  exact (bd_sl p q (hb p (List.mem_of_getElem? hp)) (hb q (List.mem_of_getElem? hq))).mono (by omega) (by omega)

theorem one0 : Bd 0 0 (1 : Rat) := ⟨by decide, by decide⟩
theorem zero0 : Bd 0 0 (0 : Rat) := ⟨by decide, by decide⟩

theorem sb5 {l : List Pt} (hb : PB 5 0 5 0 l) : SB l := fun p hp => ⟨(hb p hp).1.mono (by omega) (by omega), (hb p hp).2.mono (by omega) (by omega)⟩

theorem sb_nf {l : List Pt} (ha : Asc l) (hl : 2 ≤ l.length) (hb : PB 5 0 5 0 l) : SB (nf l) := fun p hp => by
  rcases nf_pts ha hl p hp with h | ⟨c, hc, t, ht, h⟩ | ⟨c, hc, t, ht, h⟩
  · exact sb5 hb p ((bn_sub l).subset h)
  · have bc := hb c ((bn_sub l).subset hc)
    have bt := sl5 hb ht
    rcases h with rfl | rfl
    · exact ⟨(bc.1.sub one0 (N := 6) (D := 0) (by omega) (by omega) (by omega)).mono (by omega) (by omega), (bc.2.sub bt (N := 12) (D := 6) (by omega) (by omega) (by omega)).mono (by omega) (by omega)⟩
    · exact ⟨(bc.1.add one0 (N := 6) (D := 0) (by omega) (by omega) (by omega)).mono (by omega) (by omega), (bc.2.add bt (N := 12) (D := 6) (by omega) (by omega) (by omega)).mono (by omega) (by omega)⟩
  · have bc := hb c (by
      cases l with
      | nil => cases hc
      | cons a r => simp at hc; rw [← hc]; simp)
    have bt := sl5 hb ht
    have lnb : ∀ x : Rat, Bd 0 0 x → Sm (ln c t x) := fun x hx => by
      have b1 : Bd 6 0 (x - c.1) := hx.sub bc.1 (by omega) (by omega) (by omega)
      have b2 : Bd 12 6 ((x - c.1) * t) := b1.mul bt (by omega) (by omega)
      unfold ln
      exact bc.2.add b2 (by omega) (by omega) (by omega)
    rcases h with rfl | rfl
    · exact ⟨zero0.mono (by omega) (by omega), lnb 0 zero0⟩
    · exact ⟨one0.mono (by omega) (by omega), lnb 1 one0⟩

theorem lf_sm {l : List Pt} (h : ∀ p ∈ l, Bd 5 0 p.1) : Sm (lf l) ∧ Sm (rt l) := by
  cases l with
  | nil => exact ⟨zero0.mono (by omega) (by omega), one0.mono (by omega) (by omega)⟩
  | cons a r =>
    exact ⟨((h a (by simp)).sub one0 (N := 6) (D := 0) (by omega) (by omega) (by omega)).mono (by omega) (by omega), ((h _ (List.getLast_mem (by simp))).add one0 (N := 6) (D := 0) (by omega) (by omega) (by omega)).mono (by omega) (by omega)⟩

theorem norm5 {l : List Pt} (ha : Asc l) (hl : 2 ≤ l.length) (hl2 : l.length ≤ 410) (hb : PB 5 0 5 0 l) : NormOk l := by
  have := lf_sm (l := bn l) (fun p hp => (hb p ((bn_sub l).subset hp)).1)
  exact normS ha hl hl2 (sb5 hb) this.1 this.2

theorem pb_ex {l : List Pt} (hb : PB 5 0 5 0 l) : PB 5 0 5 0 (ex l) := fun p hp => by
  unfold ex at hp
  obtain ⟨q, hq, rfl⟩ := List.mem_map.1 hp
  exact ⟨(hb q hq).2, (hb q hq).1⟩

theorem law_Inverse (t : List Int) : cw f_law33_ConversionInverse [.sl 1 (List.map dI_i64.enc t)] [] = some (r_law33_ConversionInverse.enc true) := by
  refine e_law33_ConversionInverse t ?_
  rw [callD_of (c_Light t), callD_of c_sane]
  by_cases ht : (t.length : Int) ≤ 600
  case neg => rw [decide_eq_false ht]; rfl
  rw [decide_eq_true ht, brn_nt, callD_of (c_Roll t)]
  obtain ⟨m, d1, h1, hd1, m1, m2, m3, m4⟩ := c_Curve ⟨t, 0⟩ ⟨Int.le_refl _, by show t.length ≤ 600; omega⟩
  rw [callD_of h1]
  obtain ⟨x, d2, h2, bx, hd2⟩ := c_DRatio d1 hd1
  have ha := asc_of m3
  have hb : PB 5 0 5 0 (m.map ofI) := pb_int (fun p hp => by have := m4 p hp; constructor <;> (show _ ≤ 32; omega))
  have hl : 2 ≤ (m.map ofI).length := by rw [List.length_map]; exact m1
  have hl2 : (m.map ofI).length ≤ 5 := by rw [List.length_map]; exact m2
  generalize m.map ofI = l at *
  have hbx := pb_ex hb
  have hax := ex_asc ha
  have hlx : 2 ≤ (ex l).length := by rw [ex_len]; exact hl
  have hlx2 : (ex l).length ≤ 5 := by rw [ex_len]; exact hl2
  have nex : NormOk (ex l) := norm5 hax hlx (by omega) hbx
  have hv := asc_nf hax hlx
  have hvl : (nf (ex l)).length ≤ 5 := by have := bn_len (ex l) hlx; unfold nf; simp; omega
  have hvb := sb_nf hax hlx hbx
  have hvx : ∀ z, cv (ex (nf (ex l))) z = cv l z := fun z => by
    have e1 := ex_back hv nf_len (cv l z)
    have e2 : cv (nf (ex l)) (cv l z) = z := by rw [ev_nf hax hlx, ex_back ha hl]
    have e3 := ex_back hv nf_len
    have e4 := ex_forth hv nf_len z
    have : cv (nf (ex l)) (cv (ex (nf (ex l))) z) = cv (nf (ex l)) (cv l z) := by rw [e4, e2]
    exact (ev_inj hv nf_len).1 this
  have bnv : bn (ex (nf (ex l))) = bn l := canon_bn (ex_asc hv) (by rw [ex_len]; exact nf_len) ha hl hvx
  have nfv : nf (ex (nf (ex l))) = nf l := canon (ex_asc hv) (by rw [ex_len]; exact nf_len) ha hl hvx
  have lfb := lf_sm (l := bn l) (fun p hp => (hb p ((bn_sub l).subset hp)).1)
  have nexv : NormOk (ex (nf (ex l))) := normS (ex_asc hv) (by rw [ex_len]; exact nf_len) (by rw [ex_len]; omega) hvb.ex (by rw [bnv]; exact lfb.1) (by rw [bnv]; exact lfb.2)
  have nl : NormOk l := norm5 ha hl (by omega) hb
  have nnl : NormOk (nf l) := normS (asc_nf ha hl) nf_len (by have := bn_len l hl; unfold nf; simp; omega) (sb_nf ha hl hb) (by rw [bn_nf ha hl]; exact lfb.1) (by rw [bn_nf ha hl]; exact lfb.2)
  have nid : NormOk idL := normS idL_asc (by decide) (by decide) idL_sb (by rw [idL_bn]; exact sm_int (x := 0) (by decide)) (by rw [idL_bn]; exact sm_int (x := 1) (by decide))
  have by1 : Bd 16 9 (cv l x) := (bd_ev hl hb bx).mono (by decide) (by decide)
  have bxs : Sm x := bx.mono (by omega) (by omega)
  have ev2 : Each (nf (ex l)) fun p q => EvOk p q (cv l x) := fun i p q hp hq => by
    have sp := hvb p (List.mem_of_getElem? hp)
    have sq := hvb q (List.mem_of_getElem? hq)
    have bs := sl5 hbx (nf_sl hax hlx hp hq)
    have b1 : Bd 23 15 (cv l x - p.1) := by1.sub sp.1 (by omega) (by omega) (by omega)
    have b2 : Bd 29 21 ((cv l x - p.1) * sl p q) := b1.mul bs (by omega) (by omega)
    exact ⟨slS sp sq (pair_asc hv hp hq).1, AddOk.mk by1 sp.1 (by omega) (by omega) (by omega), MulOk.mk b1 bs (by omega) (by omega), AddOk.mk sp.2 b2 (by omega) (by omega) (by omega)⟩
  have hz : cv (nf (ex l)) (cv l x) = x := by rw [ev_nf hax hlx, ex_back ha hl]
  have cA := comp_id ha hl (sb5 hb) hv nf_len hvb (by omega) (fun z => by rw [ev_nf hax hlx, ex_back ha hl]) (fun q hq => by
    rw [← ev_nf hax hlx, ev_through hv nf_len q hq]; exact (hvb q hq).2)
  have cB := comp_id hv nf_len hvb ha hl (sb5 hb) (by omega) (fun z => by rw [ev_nf hax hlx, ex_forth ha hl]) (fun q hq => by
    rw [hvx, ev_through ha hl q hq]; exact (sb5 hb q hq).2)
  have cL : cw f_conversion_Line [aR ((1 : Int) : Rat), aR ((0 : Int) : Rat)] [] = some (r_conversion_Line.enc (⟨idL.map ofP⟩, 0)) :=
    lineE ▸ g_Line (s := ((1 : Int) : Rat)) (t := ((0 : Int) : Rat)) (AddOk.mk one0 zero0 (by omega) (by omega) (by omega)) (one0.mono (by omega) (by omega)) (zero0.mono (by omega) (by omega)) (by decide)
  rw [callD_of (g_Inverse l ha hl (by omega) (sb5 hb).vals nex)]
  show callD r_conversion_Inverse (cw f_conversion_Inverse [aC (nf (ex l))] []) _ = _
  rw [callD_of (g_Inverse (nf (ex l)) hv nf_len (by omega) hvb.vals nexv), callD_of h2]
  show callD r_conversion_Eval (cw f_conversion_Eval [aC l, aR x] []) _ = _
  rw [callD_of (g_Eval l x ha hl (by omega) (sb5 hb).vals (bx.mono (by omega) (by omega)) (eachS ha (sb5 hb) bxs))]
  show callD r_conversion_Eval (cw f_conversion_Eval [aC (nf (ex l)), aR (cv l x)] []) _ = _
  rw [callD_of (g_Eval (nf (ex l)) (cv l x) hv nf_len (by omega) hvb.vals (by1.mono (by omega) (by omega)) ev2)]
  show callD r_conversion_Compose (cw f_conversion_Compose [aC l, aC (nf (ex l))] []) _ = _
  rw [callD_of cA]
  show callD r_conversion_Compose (cw f_conversion_Compose [aC (nf (ex l)), aC l] []) _ = _
  rw [callD_of cB, callD_of (c_lwhole 1), callD_of (c_lwhole 0)]
  show callD r_conversion_Line (cw f_conversion_Line [aR ((1 : Int) : Rat), aR ((0 : Int) : Rat)] []) _ = _
  rw [callD_of cL, brn_t (by rfl), brn_t (by rfl), brn_t (by rfl), brn_t (by rfl), brn_t (by rfl), brn_t (by rfl), brn_t (by rfl)]
  show brn ((ofR (cv (nf (ex l)) (cv l x))).Num == (ofR x).Num && ((ofR (cv (nf (ex l)) (cv l x))).Den == (ofR x).Den && true)) _ _ = _
  rw [eqR, hz, decide_eq_true rfl, brn_T]
  show callD r_conversion_Same (cw f_conversion_Same [aC (nf (ex (nf (ex l)))), aC l] []) _ = _
  rw [nfv, callD_of (g_SameT (nf l) l nnl nl (nf_nf ha hl).symm), brn_T]
  show callD r_conversion_Same (cw f_conversion_Same [aC idL, aC idL] []) _ = _
  rw [callD_of (g_SameT idL idL nid nid rfl), brn_T]
  show callD r_conversion_Same (cw f_conversion_Same [aC idL, aC idL] []) _ = _
  rw [callD_of (g_SameT idL idL nid nid rfl), brn_T]
end Go.Proofs.Ytiienbfdcgipnaa
