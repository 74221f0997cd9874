/- Conversion: one curve after the other. -/
import Derived.Test.YtapkemilafogjaaConvI
import Derived.Test.YtapkemilafogjaaCompact
import Derived.Test.YtapkemilafogjaaPureJ
namespace Go.Proofs.Ytapkemilafogjaa
open Go.Ab Go.Pure Go.Sort
set_option linter.unusedVariables false

def vG (x : GRatio) : Rat := mkRat x.Num x.Den.toNat
theorem vG_of (r : Rat) : vG (ofR r) = r := by simp [vG, ofR, Rat.mkRat_self]
def ltG (x y : GRatio) : Bool := decide (vG x < vG y)
def PG (x : GRatio) : Prop := ∃ r, x = ofR r ∧ VOk r

theorem swoG : SWO ltG where
  irrefl := fun x => by simp only [ltG, decide_eq_false_iff_not]; grind
  trans := fun x y z h1 h2 => by simp only [ltG, decide_eq_true_eq] at *; grind
  ntrans := fun x y z h1 h2 => by simp only [ltG, decide_eq_false_iff_not] at *; grind

theorem cmpG : Cmp ltG PG := ⟨fun x y hx hy => by
  obtain ⟨a, rfl, ha⟩ := hx
  obtain ⟨b, rfl, hb⟩ := hy
  refine ⟨_, c_Compare a b ha hb (by omega) (by omega) (by omega) (by omega), ?_⟩
  have h1 : (a < b) ↔ a.num * b.den < b.num * a.den := Rat.lt_iff a b
  unfold ltG
  rw [vG_of, vG_of]
  by_cases h : a < b
  · rw [decide_eq_true h, decide_eq_true_eq]
    have := h1.1 h
    unfold cmpZ
    repeat' split
    all_goals omega
  · rw [decide_eq_false h, decide_eq_false_iff_not]
    have : ¬ (a.num * b.den < b.num * a.den) := fun h' => h (h1.2 h')
    unfold cmpZ
    repeat' split
    all_goals omega⟩

theorem map_of_perm {l : List GRatio} {rs : List Rat} (h : l.Perm (rs.map ofR)) : l = (l.map vG).map ofR ∧ (l.map vG).Perm rs := by
  constructor
  · rw [List.map_map]
    conv => lhs; rw [← List.map_id l]
    refine List.map_congr_left (fun x hx => ?_)
    have := h.mem_iff.1 hx
    obtain ⟨r, _, rfl⟩ := List.mem_map.1 this
    simp [vG_of]
  · have := h.map vG
    rw [List.map_map] at this
    have e : (vG ∘ ofR) = id := by funext r; exact vG_of r
    rw [e, List.map_id] at this
    exact this

theorem c_sortR (rs : List Rat) (hv : ∀ r ∈ rs, VOk r) (hl : rs.length < 50) :
    ∃ ss : List Rat, cw f_slices_SortFunc_api_Ratio_api_Ratio [.row 1000 2 0 (List.map dGRatio.enc (rs.map ofR)).length, .fn f_ratio_Compare []] [(1000, ⟨2, ty_api_Ratio, List.map dGRatio.enc (rs.map ofR), false⟩)] = some (r_slices_SortFunc_api_Ratio_api_Ratio.enc (ss.map ofR)) ∧ ss.Perm rs ∧ ss.Pairwise (· ≤ ·) := by
  obtain ⟨l', h1, h2, h3⟩ := c_SortFunc cmpG swoG (rs.map ofR) (fun x hx => by
    obtain ⟨r, hr, rfl⟩ := List.mem_map.1 hx
    exact ⟨r, rfl, hv r hr⟩) (by simpa using hl)
  obtain ⟨e1, e2⟩ := map_of_perm h2
  refine ⟨l'.map vG, by rw [← e1]; exact h1, e2, ?_⟩
  rw [List.pairwise_map]
  refine h3.imp (fun {x y} h => ?_)
  simp only [ltG, decide_eq_false_iff_not] at h
  grind

theorem c_compactR (ss : List Rat) (hl : ss.length ≤ 100000) (hs : ss.Pairwise (· ≤ ·)) :
    ∃ (xs : List Rat) (l' : List GRatio), cw f_slices_Compact_api_Ratio_api_Ratio [.row 1000 2 0 (List.map dGRatio.enc (ss.map ofR)).length] [(1000, ⟨2, ty_api_Ratio, List.map dGRatio.enc (ss.map ofR), false⟩)] = some (rCp xs.length l') ∧
      l'.take xs.length = xs.map ofR ∧ xs.Pairwise (· < ·) ∧ (∀ x, x ∈ xs ↔ x ∈ ss) ∧ l'.length = ss.length := by
  obtain ⟨l', h1, h2, h3⟩ := c_Compact (ss.map ofR) (by simpa using hl)
  have hm : ∀ x, x ∈ dq (ss.map ofR) (ss.map ofR).length ↔ x ∈ ss.map ofR := dq_mem _
  have ha := dq_asc (ss.map ofR) vG (fun x hx y hy h => by
    obtain ⟨a, _, rfl⟩ := List.mem_map.1 hx
    obtain ⟨b, _, rfl⟩ := List.mem_map.1 hy
    rw [vG_of, vG_of] at h
    rw [h]) (by
    rw [List.pairwise_map]
    refine hs.imp (fun {x y} h => ?_)
    rw [vG_of, vG_of]
    exact h) _ (Nat.le_refl _)
  generalize dq (ss.map ofR) (ss.map ofR).length = m at h1 h2 hm ha
  have e1 : m = (m.map vG).map ofR := by
    rw [List.map_map]
    conv => lhs; rw [← List.map_id m]
    refine List.map_congr_left (fun x hx => ?_)
    obtain ⟨r, _, rfl⟩ := List.mem_map.1 ((hm x).1 hx)
    simp [vG_of]
  have eL : (m.map vG).length = m.length := List.length_map _
  refine ⟨m.map vG, l', by rw [eL]; exact h1, by rw [eL, ← e1]; exact h2, ?_, fun x => ?_, by simpa using h3⟩
  · rw [List.pairwise_map]; exact ha
  · rw [List.mem_map]
    constructor
    · rintro ⟨g, hg, rfl⟩
      obtain ⟨r, hr, rfl⟩ := List.mem_map.1 ((hm g).1 hg)
      rw [vG_of]; exact hr
    · intro hx
      exact ⟨ofR x, (hm _).2 (List.mem_map.2 ⟨x, hx, rfl⟩), vG_of x⟩

/-- one strictly ascending list has the given members -/
theorem asc_unique : ∀ {l m : List Rat}, l.Pairwise (· < ·) → m.Pairwise (· < ·) → (∀ x, x ∈ l ↔ x ∈ m) → l = m
  | [], [], _, _, _ => rfl
  | [], y :: m, _, _, h => absurd ((h y).2 List.mem_cons_self) (by simp)
  | x :: l, [], _, _, h => absurd ((h x).1 List.mem_cons_self) (by simp)
  | x :: l, y :: m, hl, hm, h => by
    rw [List.pairwise_cons] at hl hm
    have hxy : x = y := by
      rcases List.mem_cons.1 ((h x).1 List.mem_cons_self) with h1 | h1
      · exact h1
      · rcases List.mem_cons.1 ((h y).2 List.mem_cons_self) with h2 | h2
        · exact h2.symm
        · have := hm.1 x h1
          have := hl.1 y h2
          grind
    subst hxy
    refine congrArg _ (asc_unique hl.2 hm.2 (fun z => ?_))
    have hz := h z
    simp only [List.mem_cons] at hz
    constructor
    · intro h1
      rcases hz.1 (.inr h1) with h2 | h2
      · subst h2; have := hl.1 z h1; grind
      · exact h2
    · intro h1
      rcases hz.2 (.inr h1) with h2 | h2
      · subst h2; have := hm.1 z h1; grind
      · exact h2

/-- the conditions of composing -/
structure CompOk (f g : List Pt) (xs : List Rat) : Prop where
  fa : Asc f
  fl : 2 ≤ f.length
  fv : AllV f
  ga : Asc g
  gl : 2 ≤ g.length
  gv : AllV g
  len : f.length + g.length < 50
  inv : ∀ q ∈ g, VOk (cv (ex f) q.1) ∧ Each (ex f) fun p' q' => EvOk p' q' q.1
  pts : ∀ x ∈ xs, VOk x ∧ (Each f fun p q => EvOk p q x) ∧ VOk (cv f x) ∧ Each g fun p q => EvOk p q (cv f x)
  nrm : NormOk (cps f g xs)
  asc : xs.Pairwise (· < ·)
  mem : ∀ x, x ∈ xs ↔ (∃ p ∈ f, p.1 = x) ∨ ∃ q ∈ g, cv (ex f) q.1 = x

noncomputable abbrev cF (f : List Pt) : GCurve := ⟨f.map ofP⟩

theorem k_comp3 {f g : List Pt} {xs : List Rat} (h : CompOk f g xs) (l' : List GRatio) (hl' : l'.take xs.length = xs.map ofR) (hx : xs.length ≤ 1000) : ∀ (k i : Nat) (m : List GPoint), i + k = xs.length → m.length = xs.length → m.take i = ((cps f g xs).take i).map ofP →
    k_conversion_Compose_3 (cF f) (cF g) (xs.length, l') (List.map dGPoint.enc m) (i : Int) = some (r_conversion_Compose.enc (⟨(nf (cps f g xs)).map ofP⟩, 0)) := by
  have hcl : (cps f g xs).length = xs.length := by simp [cps]
  intro k
  induction k with
  | zero =>
    intro i m hk hm ht
    have hi : i = xs.length := by omega
    subst hi
    rw [List.take_of_length_le (by omega), List.take_of_length_le (by omega)] at ht
    subst ht
    refine t_conversion_Compose_3 _ _ _ _ _ ?_
    dsimp only
    simp only [List.length_replicate, Int.toNat_natCast, List.length_map, Nat.zero_add]
    rw [brn_dec, if_neg (by omega), chk_pos (by omega), List.take_of_length_le (by simp [hcl]), callD_of (g_normal (cps f g xs) h.nrm), chk_pos (by omega), chk_pos (by omega)]
  | succ k ih =>
    intro i m hk hm ht
    have hi : i < xs.length := by omega
    obtain ⟨hx1, hx2, hx3, hx4⟩ := h.pts xs[i] (List.getElem_mem hi)
    have hle : xs.length ≤ l'.length := by
      have := congrArg List.length hl'
      simp at this
      omega
    have hli : l'[i]? = some (ofR xs[i]) := by
      have : (l'.take xs.length)[i]? = (xs.map ofR)[i]? := by rw [hl']
      rw [List.getElem?_take, if_pos hi, List.getElem?_map, List.getElem?_eq_getElem hi] at this
      exact this
    have hci : (cps f g xs)[i]? = some (xs[i], cv g (cv f xs[i])) := by
      unfold cps
      rw [List.getElem?_map, List.getElem?_eq_getElem hi]
      rfl
    have hmi : m[i]? = some m[i] := List.getElem?_eq_getElem (by omega)
    refine t_conversion_Compose_3 _ _ _ _ _ ?_
    dsimp only
    simp only [List.length_replicate, Int.toNat_natCast, Nat.zero_add]
    rw [brn_dec, if_pos (by omega), chk_pos (by omega), chk_pos (by omega), elemD_map (D := dGRatio) hli]
    show callD r_conversion_eval (cw f_conversion_eval [.sl 4 (ptsE f), aR xs[i]] []) _ = _
    rw [callD_of (g_eval f xs[i] h.fa h.fl (by have := h.len; omega) h.fv hx1 hx2), brn_f (by rfl)]
    show callD r_conversion_eval (cw f_conversion_eval [.sl 4 (ptsE g), aR (cv f xs[i])] []) _ = _
    rw [callD_of (g_eval g (cv f xs[i]) h.ga h.gl (by have := h.len; omega) h.gv hx3 hx4), brn_f (by rfl), chk_pos (by omega), chk_pos (by omega), elemD_map (D := dGPoint) hmi]
    have hw : w64 ((i : Int) + 1) = ((i + 1 : Nat) : Int) := by rw [w64_id (by omega) (by omega)]; omega
    rw [hw]
    have := ih (i + 1) (m.set i (ofP (xs[i], cv g (cv f xs[i])))) (by omega) (by simp [hm]) (by
      rw [List.take_add_one, List.take_set_of_le (Nat.le_refl _), List.getElem?_set_self (by omega), ht, List.take_add_one, hci, List.map_append]
      rfl)
    rw [List.map_set] at this
    exact this

theorem k_comp2 {f g : List Pt} {xs : List Rat} (h : CompOk f g xs) : ∀ (k i : Nat) (rs : List Rat), i + k = g.length → rs = f.map (·.1) ++ (g.take i).map (fun q => cv (ex f) q.1) →
    k_conversion_Compose_2 (cF f) (cF g) ((ex f).map ofP) (List.map dGRatio.enc (rs.map ofR)) (i : Int) = some (r_conversion_Compose.enc (⟨(nf (cps f g xs)).map ofP⟩, 0)) := by
  have hlen := h.len
  intro k
  induction k with
  | zero =>
    intro i rs hk hrs
    have hi : i = g.length := by omega
    subst hi
    rw [List.take_length] at hrs
    have hrl : rs.length = f.length + g.length := by rw [hrs]; simp
    obtain ⟨ss, s1, s2, s3⟩ := c_sortR rs (fun r hr => by
      rw [hrs, List.mem_append] at hr
      rcases hr with hr | hr
      · obtain ⟨p, hp, rfl⟩ := List.mem_map.1 hr; exact (h.fv p hp).1
      · obtain ⟨q, hq, rfl⟩ := List.mem_map.1 hr; exact (h.inv q hq).1) (by omega)
    have hsl : ss.length = rs.length := s2.length_eq
    obtain ⟨ys, l', c1, c2, c3, c4, c5⟩ := c_compactR ss (by omega) s3
    have hy : ys = xs := asc_unique c3 h.asc (fun x => by
      rw [c4, s2.mem_iff, h.mem, hrs, List.mem_append, List.mem_map, List.mem_map])
    subst hy
    have hyl : ys.length ≤ 1000 := by
      have := congrArg List.length c2
      simp at this
      omega
    have hcl : (cps f g ys).length = ys.length := by simp [cps]
    refine t_conversion_Compose_2 _ _ _ _ _ ?_
    have hlg : (List.map dGPoint.enc (cF g).Points).length = g.length := by simp
    rw [hlg, brn_dec, if_neg (by omega), callD_of s1]
    have e : (List.map dGRatio.enc (rs.map ofR)).length = (List.map dGRatio.enc (ss.map ofR)).length := by simp [hsl]
    rw [e, callD_of c1]
    dsimp only
    rw [chk_pos rfl, chk_pos (by omega), Int.toNat_natCast, chk_pos (by omega)]
    have := k_comp3 h l' c2 hyl ys.length 0 (List.replicate ys.length ⟨⟨0, 0⟩, ⟨0, 0⟩⟩) (by omega) (by simp) (by simp)
    rw [List.map_replicate] at this
    exact this
  | succ k ih =>
    intro i rs hk hrs
    have hi : i < g.length := by omega
    have hrl : rs.length ≤ f.length + g.length := by rw [hrs]; simp; omega
    obtain ⟨v1, v2⟩ := h.inv g[i] (List.getElem_mem hi)
    have hgi : g[i]? = some g[i] := List.getElem?_eq_getElem hi
    refine t_conversion_Compose_2 _ _ _ _ _ ?_
    have hlg : (List.map dGPoint.enc (cF g).Points).length = g.length := by simp
    rw [hlg, brn_dec, if_pos (by omega), chk_pos (by omega), Int.toNat_natCast, elemP hgi, chk_pos (by omega), List.take_length]
    show callD r_conversion_eval (cw f_conversion_eval [.sl 4 (ptsE (ex f)), aR g[i].1] []) _ = _
    have hexv : AllV (ex f) := fun p hp => by
      unfold ex at hp
      obtain ⟨q, hq, rfl⟩ := List.mem_map.1 hp
      exact ⟨(h.fv q hq).2, (h.fv q hq).1⟩
    rw [callD_of (g_eval (ex f) g[i].1 (ex_asc h.fa) (by rw [ex_len]; exact h.fl) (by rw [ex_len]; omega) hexv (h.gv g[i] (List.getElem_mem hi)).1 v2), brn_f (by rfl), chk_pos rfl, chk_pos (by simp; omega), chk_pos rfl]
    have hw : w64 ((i : Int) + 1) = ((i + 1 : Nat) : Int) := by rw [w64_id (by omega) (by omega)]; omega
    rw [hw]
    have := ih (i + 1) (rs ++ [cv (ex f) g[i].1]) (by omega) (by rw [hrs, List.take_add_one, hgi, List.map_append, List.append_assoc]; rfl)
    rw [List.map_append, List.map_append] at this
    exact this

theorem k_comp1 {f g : List Pt} {xs : List Rat} (h : CompOk f g xs) : ∀ (k i : Nat) (rs : List Rat), i + k = f.length → rs = (f.take i).map (·.1) →
    k_conversion_Compose_1 (cF f) (cF g) (List.map dGRatio.enc (rs.map ofR)) (i : Int) = some (r_conversion_Compose.enc (⟨(nf (cps f g xs)).map ofP⟩, 0)) := by
  have hlen := h.len
  intro k
  induction k with
  | zero =>
    intro i rs hk hrs
    have hi : i = f.length := by omega
    subst hi
    rw [List.take_length] at hrs
    refine t_conversion_Compose_1 _ _ _ _ ?_
    have hlf : (List.map dGPoint.enc (cF f).Points).length = f.length := by simp
    rw [hlf, brn_dec, if_neg (by omega), callD_of (c_exchanged f (by omega))]
    exact k_comp2 h g.length 0 rs (by omega) (by rw [hrs]; simp)
  | succ k ih =>
    intro i rs hk hrs
    have hi : i < f.length := by omega
    have hrl : rs.length ≤ f.length := by rw [hrs]; simp; omega
    have hfi : f[i]? = some f[i] := List.getElem?_eq_getElem hi
    refine t_conversion_Compose_1 _ _ _ _ ?_
    have hlf : (List.map dGPoint.enc (cF f).Points).length = f.length := by simp
    rw [hlf, brn_dec, if_pos (by omega), chk_pos (by omega), Int.toNat_natCast, elemP hfi, chk_pos rfl, chk_pos (by simp; omega), chk_pos rfl]
    have hw : w64 ((i : Int) + 1) = ((i + 1 : Nat) : Int) := by rw [w64_id (by omega) (by omega)]; omega
    rw [hw]
    have := ih (i + 1) (rs ++ [f[i].1]) (by omega) (by rw [hrs, List.take_add_one, hfi, List.map_append]; rfl)
    rw [List.map_append, List.map_append] at this
    exact this

theorem g_Compose {f g : List Pt} {xs : List Rat} (h : CompOk f g xs) : cw f_conversion_Compose [aC f, aC g] [] = some (r_conversion_Compose.enc (⟨(nf (cps f g xs)).map ofP⟩, 0)) := by
  have hlen := h.len
  refine e_conversion_Compose _ _ ?_
  rw [callD_of (g_CValid f h.fa h.fl (by omega) h.fv), brn_nt, callD_of (g_CValid g h.ga h.gl (by omega) h.gv), brn_nt]
  exact k_comp1 h f.length 0 [] (by omega) (by simp)
end Go.Proofs.Ytapkemilafogjaa
