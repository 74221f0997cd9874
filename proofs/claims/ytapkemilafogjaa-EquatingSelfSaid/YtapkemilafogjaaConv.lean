/- Conversion: what its functions compute on curves of small fractions. -/
import Derived.Test.YtapkemilafogjaaCurve
namespace Go.Proofs.Ytapkemilafogjaa
open Go.Ab Go.Pure
set_option linter.unusedVariables false

/-- sizes of points -/
def PB (nx dx ny dy : Nat) (l : List Pt) : Prop := ∀ p ∈ l, Bd nx dx p.1 ∧ Bd ny dy p.2

/-- sizes of values -/
def evN (nx dx ny dy nr dr : Nat) : Nat := max (ny + ((dr + dx) + (2 * dy + nx + dx + 1))) ((max (nr + dx) (nx + dr) + 1 + (ny + dy + 1 + 2 * dx)) + dy) + 1
def evD (nx dx ny dy nr dr : Nat) : Nat := dy + ((dr + dx) + (2 * dy + nx + dx + 1))

noncomputable abbrev ptsE (l : List Pt) : List (List AV) := List.map dGPoint.enc (l.map ofP)
noncomputable abbrev mS (e : Int) : Mem := [(1000, ⟨1, ty_conversion_steps, [dGconversionSteps.enc ⟨e⟩], true⟩)]

theorem elemP {β : Type} {l : List Pt} {i : Nat} {p : Pt} (h : l[i]? = some p) (k : GPoint → Option β) : elemD dGPoint (ptsE l) i k = k (ofP p) :=
  elemD_map (D := dGPoint) (l := l.map ofP) (by rw [List.getElem?_map, h]; rfl) k

theorem lenP (l : List Pt) : (ptsE l).length = l.length := by simp

theorem c_cwhole (n : Int) : cw f_conversion_whole [I n] [] = some (r_conversion_whole.enc (ofR (n : Rat))) := e_conversion_whole n rfl

theorem c_doAdd (a b : Rat) {n d n' d' : Nat} (ha : Bd n d a) (hb : Bd n' d' b) (h1 : n + d' + 1 ≤ 60) (h2 : n' + d + 1 ≤ 60) (h3 : d + d' ≤ 60) :
    cw f_conversion_steps_do [.loc 1000 1 0 0, .fn f_ratio_Add [], aR a, aR b] (mS 0) = some (r_conversion_steps_do.enc (ofR (a + b), ⟨0⟩)) := by
  refine e_conversion_steps_do_Add _ _ _ ?_
  rw [brn_f (by rfl), callD_of (c_Add a b ha hb h1 h2 h3)]

theorem c_doSub (a b : Rat) {n d n' d' : Nat} (ha : Bd n d a) (hb : Bd n' d' b) (h1 : n + d' + 1 ≤ 60) (h2 : n' + d + 1 ≤ 60) (h3 : d + d' ≤ 60) :
    cw f_conversion_steps_do [.loc 1000 1 0 0, .fn f_ratio_Sub [], aR a, aR b] (mS 0) = some (r_conversion_steps_do.enc (ofR (a - b), ⟨0⟩)) := by
  refine e_conversion_steps_do_Sub _ _ _ ?_
  rw [brn_f (by rfl), callD_of (c_Sub a b ha hb h1 h2 h3)]

theorem c_doMul (a b : Rat) {n d n' d' : Nat} (ha : Bd n d a) (hb : Bd n' d' b) (h1 : n + n' ≤ 60) (h3 : d + d' ≤ 60) :
    cw f_conversion_steps_do [.loc 1000 1 0 0, .fn f_ratio_Mul [], aR a, aR b] (mS 0) = some (r_conversion_steps_do.enc (ofR (a * b), ⟨0⟩)) := by
  refine e_conversion_steps_do_Mul _ _ _ ?_
  rw [brn_f (by rfl), callD_of (c_Mul a b ha hb h1 h3)]

theorem c_doDiv (a b : Rat) {n d n' d' : Nat} (ha : Bd n d a) (hb : Bd n' d' b) (h0 : b ≠ 0) (h1 : n + d' ≤ 60) (h3 : d + n' ≤ 60) :
    cw f_conversion_steps_do [.loc 1000 1 0 0, .fn f_ratio_Div [], aR a, aR b] (mS 0) = some (r_conversion_steps_do.enc (ofR (a / b), ⟨0⟩)) := by
  refine e_conversion_steps_do_Div _ _ _ ?_
  rw [brn_f (by rfl), callD_of (c_Div a b ha hb h0 h1 h3)]

theorem c_slope (p q : Pt) {nx dx ny dy : Nat} (hp : Bd nx dx p.1 ∧ Bd ny dy p.2) (hq : Bd nx dx q.1 ∧ Bd ny dy q.2) (h : p.1 < q.1) (h1 : ny + dy + 1 + 2 * dx ≤ 60) (h2 : 2 * dy + nx + dx + 1 ≤ 60) :
    cw f_conversion_steps_slope [.loc 1000 1 0 0, .agg (dGPoint.enc (ofP p)), .agg (dGPoint.enc (ofP q))] (mS 0) = some (r_conversion_steps_slope.enc (ofR (sl p q), ⟨0⟩)) := by
  have b1 : Bd (ny + dy + 1) (2 * dy) (q.2 - p.2) := hq.2.sub hp.2 (by omega) (by omega) (by omega)
  have b2 : Bd (nx + dx + 1) (2 * dx) (q.1 - p.1) := hq.1.sub hp.1 (by omega) (by omega) (by omega)
  have hne : q.1 - p.1 ≠ 0 := by grind
  refine e_conversion_steps_slope _ _ _ ?_
  have c1 := c_doSub q.2 p.2 hq.2 hp.2 (by omega) (by omega) (by omega)
  have c2 := c_doSub q.1 p.1 hq.1 hp.1 (by omega) (by omega) (by omega)
  have c3 := c_doDiv (q.2 - p.2) (q.1 - p.1) b1 b2 hne (by omega) (by omega)
  show callD r_conversion_steps_do (cw f_conversion_steps_do [.loc 1000 1 0 0, .fn f_ratio_Sub [], aR q.2, aR p.2] (mS 0)) _ = _
  rw [callD_of c1]
  show callD r_conversion_steps_do (cw f_conversion_steps_do [.loc 1000 1 0 0, .fn f_ratio_Sub [], aR q.1, aR p.1] (mS 0)) _ = _
  rw [callD_of c2]
  show callD r_conversion_steps_do (cw f_conversion_steps_do [.loc 1000 1 0 0, .fn f_ratio_Div [], aR (q.2 - p.2), aR (q.1 - p.1)] (mS 0)) _ = _
  rw [callD_of c3]
  rfl

theorem bd_sl (p q : Pt) {nx dx ny dy : Nat} (hp : Bd nx dx p.1 ∧ Bd ny dy p.2) (hq : Bd nx dx q.1 ∧ Bd ny dy q.2) : Bd (ny + dy + 1 + 2 * dx) (2 * dy + nx + dx + 1) (sl p q) := by
  have b1 : Bd (ny + dy + 1) (2 * dy) (q.2 - p.2) := hq.2.sub hp.2 (by omega) (by omega) (by omega)
  have b2 : Bd (nx + dx + 1) (2 * dx) (q.1 - p.1) := hq.1.sub hp.1 (by omega) (by omega) (by omega)
  unfold sl
  rw [Rat.div_def]
  exact b1.mul b2.inv (by omega) (by omega)

theorem c_eval_1 (l : List Pt) (x : Rat) {nx dx ny dy nr dr : Nat} (hb : PB nx dx ny dy l) (hx : Bd nr dr x) (h1 : nx ≤ 60) (h2 : dx ≤ 60) (h3 : nr ≤ 60) (h4 : dr ≤ 60) (i : Nat) (hi : i < 1000000) (q : Pt) (hq : l[i + 1]? = some q) :
    cw f_conversion_eval_1 [I (i : Int), .fp [I (ofR x).Num, I (ofR x).Den], .fp [.sl 4 (ptsE l)]] [] = some (r_conversion_eval_1.enc (decide (x ≤ q.1))) := by
  refine e_conversion_eval_1 (i : Int) (ofR x) (l.map ofP) ?_
  have e : w64 ((i : Int) + 1) = ((i + 1 : Nat) : Int) := by rw [w64_id (by omega) (by omega)]; omega
  rw [e, chk_pos (by omega), Int.toNat_natCast, elemP hq]
  have hm := hb q (List.mem_of_getElem? hq)
  show callD r_ratio_Compare (cw f_ratio_Compare [aR x, aR q.1] []) _ = _
  rw [callD_of (c_Compare x q.1 hx hm.1 h3 h4 h1 h2)]
  have : decide (cmpZ (x.num * (q.1.den : Int)) (q.1.num * (x.den : Int)) ≤ 0) = decide (x ≤ q.1) := by rw [decide_eq_decide]; exact cmpR_le x q.1
  rw [this]

theorem k_Search (l : List Pt) (x : Rat) {nx dx ny dy nr dr : Nat} (hb : PB nx dx ny dy l) (hx : Bd nr dr x) (h1 : nx ≤ 60) (h2 : dx ≤ 60) (h3 : nr ≤ 60) (h4 : dr ≤ 60) (hl : l.length ≤ 1000000) :
    ∀ (k i j : Nat), j = i + k → j + 2 ≤ l.length → (i = 0 ∨ ∃ p, l[i]? = some p ∧ p.1 < x) → (j + 2 = l.length ∨ ∃ q, l[j + 1]? = some q ∧ x ≤ q.1) →
      ∃ r : Nat, k_sort_Search_eval_1 (ofR x) (l.map ofP) (i : Int) (j : Int) = some (r_sort_Search.enc (r : Int)) ∧ r + 2 ≤ l.length ∧ (r = 0 ∨ ∃ p, l[r]? = some p ∧ p.1 < x) ∧ (r + 2 = l.length ∨ ∃ q, l[r + 1]? = some q ∧ x ≤ q.1) := by
  intro k
  induction k using Nat.strongRecOn with
  | _ k ih =>
    intro i j hj hj2 hi hq
    by_cases hk : k = 0
    · refine ⟨i, t_sort_Search_eval_1 _ _ _ _ ?_, by omega, hi, ?_⟩
      · rw [brn_dec, if_neg (by omega)]
      · rw [show i = j by omega]; exact hq
    · have hm : w64 ((wu64 (w64 ((i : Int) + (j : Int)))).fdiv (2 ^ Min.min (Int.toNat 1) 64)) = (((i + j) / 2 : Nat) : Int) := by
        have e2 : ((2 : Int) ^ Min.min (Int.toNat 1) 64) = 2 := by decide
        rw [e2, w64_id (n := (i : Int) + j) (by omega) (by omega), wu64_id (by omega) (by omega), Int.fdiv_eq_ediv_of_nonneg _ (by omega), w64_id (by omega) (by omega)]
        omega
      have hlt : (i + j) / 2 + 1 < l.length := by omega
      have hg : l[(i + j) / 2 + 1]? = some l[(i + j) / 2 + 1] := List.getElem?_eq_getElem hlt
      have hc := c_eval_1 l x hb hx h1 h2 h3 h4 ((i + j) / 2) (by omega) _ hg
      have hn : w64 ((((i + j) / 2 : Nat) : Int) + 1) = (((i + j) / 2 + 1 : Nat) : Int) := by rw [w64_id (by omega) (by omega)]; omega
      by_cases hle : x ≤ (l[(i + j) / 2 + 1]).1
      · obtain ⟨r, r1, r2, r3, r4⟩ := ih ((i + j) / 2 - i) (by omega) i ((i + j) / 2) (by omega) (by omega) hi (.inr ⟨_, hg, hle⟩)
        refine ⟨r, t_sort_Search_eval_1 _ _ _ _ ?_, r2, r3, r4⟩
        rw [brn_dec, if_pos (by omega), chk_pos (by omega), hm, callD_of hc, decide_eq_true hle, brn_nt]
        exact r1
      · obtain ⟨r, r1, r2, r3, r4⟩ := ih (j - ((i + j) / 2 + 1)) (by omega) ((i + j) / 2 + 1) j (by omega) (by omega) (.inr ⟨_, hg, by grind⟩) hq
        refine ⟨r, t_sort_Search_eval_1 _ _ _ _ ?_, r2, r3, r4⟩
        rw [brn_dec, if_pos (by omega), chk_pos (by omega), hm, callD_of hc, decide_eq_false hle, brn_nf, hn]
        exact r1

theorem asc_at {l : List Pt} (h : Asc l) {i : Nat} {p q : Pt} (hp : l[i]? = some p) (hq : l[i + 1]? = some q) : p.1 < q.1 ∧ p.2 < q.2 := by
  obtain ⟨h1, e1⟩ := List.getElem?_eq_some_iff.1 hp
  obtain ⟨h2, e2⟩ := List.getElem?_eq_some_iff.1 hq
  have := List.pairwise_iff_getElem.1 h i (i + 1) h1 h2 (by omega)
  rw [e1, e2] at this
  exact this

theorem bd_ln (p q : Pt) (x : Rat) {nx dx ny dy nr dr : Nat} (hp : Bd nx dx p.1 ∧ Bd ny dy p.2) (hq : Bd nx dx q.1 ∧ Bd ny dy q.2) (hx : Bd nr dr x) : Bd (evN nx dx ny dy nr dr) (evD nx dx ny dy nr dr) (ln p (sl p q) x) := by
  have b1 := bd_sl p q hp hq
  have b2 : Bd (max (nr + dx) (nx + dr) + 1) (dr + dx) (x - p.1) := hx.sub hp.1 (by omega) (by omega) (by omega)
  have b3 : Bd (max (nr + dx) (nx + dr) + 1 + (ny + dy + 1 + 2 * dx)) ((dr + dx) + (2 * dy + nx + dx + 1)) ((x - p.1) * sl p q) := b2.mul b1 (by omega) (by omega)
  unfold ln evN evD
  exact hp.2.add b3 (by omega) (by omega) (by omega)

theorem bd_ev {l : List Pt} {x : Rat} {nx dx ny dy nr dr : Nat} (hl : 2 ≤ l.length) (hb : PB nx dx ny dy l) (hx : Bd nr dr x) : Bd (evN nx dx ny dy nr dr) (evD nx dx ny dy nr dr) (cv l x) := by
  match l, hl with
  | p :: q :: r, _ =>
    induction r generalizing p q with
    | nil => unfold cv; rw [if_pos (.inl rfl)]; exact bd_ln p q x (hb p (by simp)) (hb q (by simp)) hx
    | cons s r ih =>
      unfold cv
      split
      · exact bd_ln p q x (hb p (by simp)) (hb q (by simp)) hx
      · exact ih q s (by simp) (fun z hz => hb z (List.mem_cons_of_mem _ hz))

theorem c_eval (l : List Pt) (x : Rat) {nx dx ny dy nr dr : Nat} (ha : Asc l) (hl : 2 ≤ l.length) (hl2 : l.length ≤ 410) (hb : PB nx dx ny dy l) (hx : Bd nr dr x) (h1 : evN nx dx ny dy nr dr ≤ 60) (h2 : evD nx dx ny dy nr dr ≤ 60) :
    cw f_conversion_eval [.sl 4 (ptsE l), aR x] [] = some (r_conversion_eval.enc (ofR (cv l x), 0)) := by
  unfold evN at h1
  unfold evD at h2
  obtain ⟨r, r1, r2, r3, r4⟩ := k_Search l x hb hx (by omega) (by omega) (by omega) (by omega) (by omega) (l.length - 2) 0 (l.length - 2) (by omega) (by omega) (.inl rfl) (.inl (by omega))
  have hs : cw f_sort_Search [I ((l.length - 2 : Nat) : Int), .fn f_conversion_eval_1 [.fp [I (ofR x).Num, I (ofR x).Den], .fp [.sl 4 (ptsE l)]]] [] = some (r_sort_Search.enc (r : Int)) := e_sort_Search_eval _ (ofR x) (l.map ofP) r1
  have hp : l[r]? = some l[r] := List.getElem?_eq_getElem (by omega)
  have hq : l[r + 1]? = some l[r + 1] := List.getElem?_eq_getElem (by omega)
  generalize l[r] = p at hp
  generalize l[r + 1] = q at hq
  have hv : cv l x = ln p (sl p q) x := ev_at l r x p q ha hp hq (by
    rcases r3 with r3 | ⟨p', h, h'⟩
    · exact .inl r3
    · rw [hp] at h; injection h with h; rw [h]; exact .inr h') (by
    rcases r4 with r4 | ⟨q', h, h'⟩
    · exact .inl r4
    · rw [hq] at h; injection h with h; rw [h]; exact .inr h')
  have bp := hb p (List.mem_of_getElem? hp)
  have bq := hb q (List.mem_of_getElem? hq)
  have b1 := bd_sl p q bp bq
  have b2 : Bd (max (nr + dx) (nx + dr) + 1) (dr + dx) (x - p.1) := hx.sub bp.1 (by omega) (by omega) (by omega)
  have b3 : Bd (max (nr + dx) (nx + dr) + 1 + (ny + dy + 1 + 2 * dx)) ((dr + dx) + (2 * dy + nx + dx + 1)) ((x - p.1) * sl p q) := b2.mul b1 (by omega) (by omega)
  refine e_conversion_eval (l.map ofP) (ofR x) ?_
  have e0 : w64 (w64 (((ptsE l).length : Int) - 1) - 1) = ((l.length - 2 : Nat) : Int) := by
    rw [lenP, w64_id (n := (l.length : Int) - 1) (by omega) (by omega), w64_id (by omega) (by omega)]; omega
  have e1 : w64 (1 + (r : Int)) = ((r + 1 : Nat) : Int) := by rw [w64_id (by omega) (by omega)]; omega
  have e2 : w64 (((r + 1 : Nat) : Int) - 1) = (r : Int) := by rw [w64_id (by omega) (by omega)]; omega
  rw [e0, callD_of hs, e1, e2, chk_pos (by omega), Int.toNat_natCast, elemP hp, chk_pos (by omega), Int.toNat_natCast, elemP hq,
    callD_of (c_slope p q bp bq (asc_at ha hp hq).1 (by omega) (by omega))]
  show callD r_conversion_steps_do (cw f_conversion_steps_do [.loc 1000 1 0 0, .fn f_ratio_Sub [], aR x, aR p.1] (mS 0)) _ = _
  rw [callD_of (c_doSub x p.1 hx bp.1 (by omega) (by omega) (by omega))]
  show callD r_conversion_steps_do (cw f_conversion_steps_do [.loc 1000 1 0 0, .fn f_ratio_Mul [], aR (x - p.1), aR (sl p q)] (mS 0)) _ = _
  rw [callD_of (c_doMul _ _ b2 b1 (by omega) (by omega))]
  show callD r_conversion_steps_do (cw f_conversion_steps_do [.loc 1000 1 0 0, .fn f_ratio_Add [], aR p.2, aR ((x - p.1) * sl p q)] (mS 0)) _ = _
  rw [callD_of (c_doAdd _ _ bp.2 b3 (by omega) (by omega) (by omega)), hv]
  rfl

theorem c_pointAt (l : List Pt) (x : Rat) {nx dx ny dy nr dr : Nat} (ha : Asc l) (hl : 2 ≤ l.length) (hl2 : l.length ≤ 410) (hb : PB nx dx ny dy l) (hx : Bd nr dr x) (h1 : evN nx dx ny dy nr dr ≤ 60) (h2 : evD nx dx ny dy nr dr ≤ 60) :
    cw f_conversion_pointAt [.sl 4 (ptsE l), aR x] [] = some (r_conversion_pointAt.enc (ofP (x, cv l x), 0)) := by
  refine e_conversion_pointAt (l.map ofP) (ofR x) ?_
  rw [callD_of (c_eval l x ha hl hl2 hb hx h1 h2), brn_f (by rfl)]
  rfl

theorem k_bends (l : List Pt) {nx dx ny dy : Nat} (ha : Asc l) (hl : l.length ≤ 410) (hb : PB nx dx ny dy l) (h1 : ny + dy + 1 + 2 * dx ≤ 60) (h2 : 2 * dy + nx + dx + 1 ≤ 60) :
    ∀ (r pre : List Pt) (p q : Pt) (found : List Pt), l = pre ++ p :: q :: r → found.length ≤ pre.length →
      k_conversion_bends_1 (l.map ofP) (ptsE found) ⟨0⟩ (ofR (sl p q)) ((pre.length + 1 : Nat) : Int) = some (r_conversion_bends.enc ((found ++ bn (p :: q :: r)).map ofP, 0)) := by
  intro r
  induction r with
  | nil =>
    intro pre p q found he hf
    refine t_conversion_bends_1 _ _ _ _ _ ?_
    have hlen : l.length = pre.length + 2 := by rw [he]; simp
    have e : w64 (((pre.length + 1 : Nat) : Int) + 1) = ((pre.length + 2 : Nat) : Int) := by rw [w64_id (by omega) (by omega)]; omega
    rw [e, brn_dec, if_neg (by rw [lenP]; omega), brn_f (by rfl), chk_pos (by omega), List.take_length]
    show _ = some (r_conversion_bends.enc ((found ++ []).map ofP, 0))
    rw [List.append_nil]
  | cons s r ih =>
    intro pre p q found he hf
    have hlen : l.length = pre.length + 3 + r.length := by rw [he]; simp; omega
    have e : w64 (((pre.length + 1 : Nat) : Int) + 1) = ((pre.length + 2 : Nat) : Int) := by rw [w64_id (by omega) (by omega)]; omega
    have hq : l[pre.length + 1]? = some q := by
      rw [he, List.getElem?_append_right (by omega), show pre.length + 1 - pre.length = 1 by omega]; rfl
    have hs : l[pre.length + 1 + 1]? = some s := by
      rw [he, List.getElem?_append_right (by omega), show pre.length + 1 + 1 - pre.length = 2 by omega]; rfl
    have mp := hb p (by rw [he]; simp)
    have mq := hb q (by rw [he]; simp)
    have ms := hb s (by rw [he]; simp)
    have he' : l = (pre ++ [p]) ++ q :: s :: r := by rw [he]; simp
    refine t_conversion_bends_1 _ _ _ _ _ ?_
    rw [e, brn_dec, if_pos (by rw [lenP]; omega), chk_pos (by omega), Int.toNat_natCast, elemP hq, chk_pos (by omega), Int.toNat_natCast, elemP hs,
      callD_of (c_slope q s mq ms (asc_at ha hq hs).1 h1 h2)]
    show brn (!((ofR (sl q s)).Num == (ofR (sl p q)).Num && ((ofR (sl q s)).Den == (ofR (sl p q)).Den && true))) _ _ = _
    rw [eqR, brn_not, brn_dec]
    have ih1 := ih (pre ++ [p]) q s found he' (by simp; omega)
    have ih2 := ih (pre ++ [p]) q s (found ++ [q]) he' (by simp; omega)
    have el : (pre ++ [p]).length + 1 = pre.length + 2 := by simp
    rw [el] at ih1 ih2
    unfold bn
    by_cases hc : sl q s = sl p q
    · rw [if_pos hc, if_pos hc]
      exact ih1
    · rw [if_neg hc, if_neg hc, chk_pos (by omega), elemP hq, chk_pos rfl, chk_pos (by rw [lenP]; omega), chk_pos rfl]
      have ea : ptsE found ++ [dGPoint.enc (ofP q)] = ptsE (found ++ [q]) := by simp only [ptsE, List.map_append, List.map_cons, List.map_nil]
      rw [ea]
      have eb : found ++ q :: bn (q :: s :: r) = (found ++ [q]) ++ bn (q :: s :: r) := by simp
      rw [eb]
      exact ih2

theorem c_bends (l : List Pt) {nx dx ny dy : Nat} (ha : Asc l) (hl : 2 ≤ l.length) (hl2 : l.length ≤ 410) (hb : PB nx dx ny dy l) (h1 : ny + dy + 1 + 2 * dx ≤ 60) (h2 : 2 * dy + nx + dx + 1 ≤ 60) :
    cw f_conversion_bends [.sl 4 (ptsE l)] [] = some (r_conversion_bends.enc ((bn l).map ofP, 0)) := by
  match l, hl, hl2, ha, hb with
  | p :: q :: r, hl, hl2, ha, hb =>
    refine e_conversion_bends ((p :: q :: r).map ofP) ?_
    have hp : (p :: q :: r)[Int.toNat 0]? = some p := rfl
    have hq : (p :: q :: r)[Int.toNat 1]? = some q := rfl
    rw [chk_pos (by omega), elemP hp, chk_pos (by omega), elemP hq, callD_of (c_slope p q (hb p (by simp)) (hb q (by simp)) (asc_at (i := 0) ha rfl rfl).1 h1 h2)]
    exact k_bends (p :: q :: r) ha hl2 hb h1 h2 r [] p q [] rfl (Nat.le_refl _)

theorem PB.sub {nx dx ny dy : Nat} {l m : List Pt} (h : PB nx dx ny dy l) (hs : m.Sublist l) : PB nx dx ny dy m := fun p hp => h p (hs.subset hp)

theorem bd_lf {nx dx ny dy : Nat} {l : List Pt} (h : PB nx dx ny dy l) : Bd (nx + dx + 1) dx (lf l) := by
  match l, h with
  | [], h => exact Bd.mono (n := 0) (d := 0) (r := 0) ⟨by decide, by decide⟩ (by omega) (by omega)
  | a :: r, h => exact (h a (by simp)).1.sub (b := 1) (n' := 0) (d' := 0) ⟨by decide, by decide⟩ (by omega) (by omega) (by omega)

theorem bd_rt {nx dx ny dy : Nat} {l : List Pt} (h : PB nx dx ny dy l) : Bd (nx + dx + 1) dx (rt l) := by
  match l, h with
  | [], h => exact Bd.mono (n := 0) (d := 0) (r := 1) ⟨by decide, by decide⟩ (by omega) (by omega)
  | a :: r, h => exact (h _ (List.getLast_mem _)).1.add (b := 1) (n' := 0) (d' := 0) ⟨by decide, by decide⟩ (by omega) (by omega) (by omega)

/-- sizes of the normal form -/
theorem pb_nf {nx dx ny dy : Nat} {l : List Pt} (hl : 2 ≤ l.length) (h : PB nx dx ny dy l) : PB (nx + dx + 1) dx (evN nx dx ny dy (nx + dx + 1) dx) (evD nx dx ny dy (nx + dx + 1) dx) (nf l) := by
  have hs := h.sub (bn_sub l)
  intro p hp
  unfold nf at hp
  rcases List.mem_cons.1 hp with hp | hp
  · rw [hp]; exact ⟨bd_lf hs, bd_ev hl h (bd_lf hs)⟩
  · rcases List.mem_append.1 hp with hp | hp
    · have := hs p hp
      exact ⟨this.1.mono (by omega) (by omega), this.2.mono (by unfold evN; omega) (by unfold evD; omega)⟩
    · rw [List.mem_singleton.1 hp]; exact ⟨bd_rt hs, bd_ev hl h (bd_rt hs)⟩

theorem bn_len (l : List Pt) (h : 2 ≤ l.length) : (bn l).length + 2 ≤ l.length := by
  match l, h with
  | p :: q :: r, _ =>
    induction r generalizing p q with
    | nil => simp [bn]
    | cons s r ih =>
      unfold bn
      have := ih q s (by simp)
      simp only [List.length_cons] at this ⊢
      split
      · omega
      · simp only [List.length_cons]; omega

theorem c_normal (l : List Pt) {nx dx ny dy : Nat} (ha : Asc l) (hl : 2 ≤ l.length) (hl2 : l.length ≤ 410) (hb : PB nx dx ny dy l) (h1 : evN nx dx ny dy (nx + dx + 1) dx ≤ 60) (h2 : evD nx dx ny dy (nx + dx + 1) dx ≤ 60) :
    cw f_conversion_normal [.sl 4 (ptsE l)] [] = some (r_conversion_normal.enc (⟨(nf l).map ofP⟩, 0)) := by
  have h1' := h1
  have h2' := h2
  unfold evN at h1'
  unfold evD at h2'
  have hs := hb.sub (bn_sub l)
  have c1 := c_pointAt l (lf (bn l)) ha hl hl2 hb (bd_lf hs) h1 h2
  have c2 := c_pointAt l (rt (bn l)) ha hl hl2 hb (bd_rt hs) h1 h2
  have hlen := bn_len l hl
  refine e_conversion_normal (l.map ofP) ?_
  rw [callD_of (c_bends l ha hl hl2 hb (by omega) (by omega)), brn_f (by rfl), callD_of (c_cwhole 0), callD_of (c_cwhole 1), brn_dec]
  show (if 0 < ((ptsE (bn l)).length : Int) then _ else _) = _
  have efin : ∀ (r : GPoint × Int) (s : GPoint × Int), r = (ofP (lf (bn l), cv l (lf (bn l))), 0) → s = (ofP (rt (bn l), cv l (rt (bn l))), 0) →
      ((([[I r.fst.X.Num, I r.fst.X.Den, I r.fst.Y.Num, I r.fst.Y.Den]]) ++ (ptsE (bn l))) ++ ([[I s.fst.X.Num, I s.fst.X.Den, I s.fst.Y.Num, I s.fst.Y.Den]])) = ptsE (nf l) := by
    intro r s hr hs
    subst hr; subst hs
    unfold nf
    simp only [ptsE, List.map_append, List.map_cons, List.map_nil, List.cons_append, List.nil_append]
  have hll : w64 (((ptsE (bn l)).length : Int) + 2) = (bn l).length + 2 := by rw [lenP, w64_id (by omega) (by omega)]
  by_cases hne : bn l = []
  · rw [if_neg (by rw [hne]; simp)]
    refine t_conversion_normal_1009v1 _ _ _ _ ?_
    rw [hne] at c1 c2
    show callD r_conversion_pointAt (cw f_conversion_pointAt [.sl 4 (ptsE l), aR (lf [])] []) _ = _
    rw [callD_of c1, brn_f (by rfl)]
    show callD r_conversion_pointAt (cw f_conversion_pointAt [.sl 4 (ptsE l), aR (rt [])] []) _ = _
    rw [callD_of c2, brn_f (by rfl), brn_dec]
    show (if 410 < w64 (((ptsE (bn l)).length : Int) + 2) then _ else _) = _
    rw [hll, if_neg (by omega), chk_pos rfl, chk_pos (by rw [lenP]; omega), chk_pos rfl, chk_pos (by rw [List.length_append, lenP]; simp; omega), chk_pos (by omega)]
    have := efin _ _ (by rw [hne]) (by rw [hne])
    rw [List.take_of_length_le (by exact Nat.le_refl _)]
    show some (AV.tup [.agg [.sl 4 (([[I (ofP ((lf [], cv l (lf [])))).X.Num, _, _, _]] ++ ptsE (bn l)) ++ [[_, _, _, _]])], I 0], ([] : Mem)) = _
    rw [this]
  · obtain ⟨a, t, hat⟩ := List.exists_cons_of_ne_nil hne
    have hpos : 0 < (bn l).length := List.length_pos_iff.2 hne
    have hA : (bn l)[Int.toNat 0]? = some a := by rw [hat]; rfl
    have hZ : (bn l)[(bn l).length - 1]? = some ((bn l).getLast hne) := by rw [← List.getLast?_eq_getElem?, List.getLast?_eq_some_getLast hne]
    have ba := hs a (by rw [hat]; simp)
    have bz := hs _ (List.getLast_mem hne)
    have elf : lf (bn l) = a.1 - 1 := by rw [hat]; rfl
    have ert : rt (bn l) = ((bn l).getLast hne).1 + 1 := by
      have : ∀ (m : List Pt) (hm : m ≠ []), rt m = (m.getLast hm).1 + 1 := fun m hm => by cases m with
        | nil => exact absurd rfl hm
        | cons a r => rfl
      exact this _ hne
    rw [if_pos (by rw [lenP]; omega), chk_pos (by omega)]
    show elemD dGPoint (ptsE (bn l)) (Int.toNat 0) _ = _
    rw [elemP hA, callD_of (c_cwhole 1)]
    have one : Bd 0 0 ((1 : Int) : Rat) := ⟨by decide, by decide⟩
    show callD r_conversion_steps_do (cw f_conversion_steps_do [.loc 1000 1 0 0, .fn f_ratio_Sub [], aR a.1, aR ((1 : Int) : Rat)] (mS 0)) _ = _
    rw [callD_of (c_doSub a.1 ((1 : Int) : Rat) ba.1 one (by omega) (by omega) (by omega))]
    show chk (0 ≤ w64 (((ptsE (bn l)).length : Int) - 1)) (elemD dGPoint (ptsE (bn l)) (w64 (((ptsE (bn l)).length : Int) - 1)).toNat _) = _
    have ez : w64 (((ptsE (bn l)).length : Int) - 1) = (((bn l).length - 1 : Nat) : Int) := by rw [lenP, w64_id (by omega) (by omega)]; omega
    rw [ez, chk_pos (by omega), Int.toNat_natCast, elemP hZ, callD_of (c_cwhole 1)]
    show callD r_conversion_steps_do (cw f_conversion_steps_do [.loc 1000 1 0 0, .fn f_ratio_Add [], aR ((bn l).getLast hne).1, aR ((1 : Int) : Rat)] (mS 0)) _ = _
    rw [callD_of (c_doAdd ((bn l).getLast hne).1 ((1 : Int) : Rat) bz.1 one (by omega) (by omega) (by omega))]
    refine t_conversion_normal_1009 _ _ _ _ ?_
    rw [brn_f (by rfl)]
    have c1' : cw f_conversion_pointAt [.sl 4 (ptsE l), aR (a.1 - ((1 : Int) : Rat))] [] = some (r_conversion_pointAt.enc (ofP (lf (bn l), cv l (lf (bn l))), 0)) := by
      have e : a.1 - ((1 : Int) : Rat) = lf (bn l) := by rw [elf]; rfl
      rw [e]; exact c1
    have c2' : cw f_conversion_pointAt [.sl 4 (ptsE l), aR (((bn l).getLast hne).1 + ((1 : Int) : Rat))] [] = some (r_conversion_pointAt.enc (ofP (rt (bn l), cv l (rt (bn l))), 0)) := by
      have e : ((bn l).getLast hne).1 + ((1 : Int) : Rat) = rt (bn l) := by rw [ert]; rfl
      rw [e]; exact c2
    show callD r_conversion_pointAt (cw f_conversion_pointAt [.sl 4 (ptsE l), aR (a.1 - ((1 : Int) : Rat))] []) _ = _
    rw [callD_of c1', brn_f (by rfl)]
    show callD r_conversion_pointAt (cw f_conversion_pointAt [.sl 4 (ptsE l), aR (((bn l).getLast hne).1 + ((1 : Int) : Rat))] []) _ = _
    rw [callD_of c2', brn_f (by rfl), brn_dec]
    show (if 410 < w64 (((ptsE (bn l)).length : Int) + 2) then _ else _) = _
    rw [hll, if_neg (by omega), chk_pos rfl, chk_pos (by rw [lenP]; omega), chk_pos rfl, chk_pos (by rw [List.length_append, lenP]; simp; omega), chk_pos (by omega)]
    have := efin _ _ rfl rfl
    rw [List.take_of_length_le (by exact Nat.le_refl _)]
    show some (AV.tup [.agg [.sl 4 (([[I (ofP ((lf (bn l), cv l (lf (bn l))))).X.Num, _, _, _]] ++ ptsE (bn l)) ++ [[_, _, _, _]])], I 0], ([] : Mem)) = _
    rw [this]
end Go.Proofs.Ytapkemilafogjaa
