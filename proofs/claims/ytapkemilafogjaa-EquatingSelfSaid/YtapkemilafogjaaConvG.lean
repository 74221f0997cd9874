/- Conversion: what its functions compute, with the conditions of each step. -/
import Derived.Test.YtapkemilafogjaaConv2
import Derived.Test.YtapkemilafogjaaRatio3
import Derived.Test.YtapkemilafogjaaPureJ
namespace Go.Proofs.Ytapkemilafogjaa
open Go.Ab Go.Pure
set_option linter.unusedVariables false

def SlOk (p q : Pt) : Prop := AddOk q.2 p.2 ∧ AddOk q.1 p.1 ∧ DivOk (q.2 - p.2) (q.1 - p.1)
def EvOk (p q : Pt) (x : Rat) : Prop := SlOk p q ∧ AddOk x p.1 ∧ MulOk (x - p.1) (sl p q) ∧ AddOk p.2 ((x - p.1) * sl p q)

/-- for each line of a curve -/
def Each (l : List Pt) (P : Pt → Pt → Prop) : Prop := ∀ i p q, l[i]? = some p → l[i + 1]? = some q → P p q
def AllV (l : List Pt) : Prop := ∀ p ∈ l, VOk p.1 ∧ VOk p.2

theorem AllV.pb {l : List Pt} (h : AllV l) : PB 60 60 60 60 l := h

theorem g_doAdd {a b : Rat} (h : AddOk a b) : cw f_conversion_steps_do [.loc 1000 1 0 0, .fn f_ratio_Add [], aR a, aR b] (mS 0) = some (r_conversion_steps_do.enc (ofR (a + b), ⟨0⟩)) := by
  obtain ⟨n, d, n', d', ha, hb, h1, h2, h3⟩ := h
  exact c_doAdd a b ha hb h1 h2 h3
theorem g_doSub {a b : Rat} (h : AddOk a b) : cw f_conversion_steps_do [.loc 1000 1 0 0, .fn f_ratio_Sub [], aR a, aR b] (mS 0) = some (r_conversion_steps_do.enc (ofR (a - b), ⟨0⟩)) := by
  obtain ⟨n, d, n', d', ha, hb, h1, h2, h3⟩ := h
  exact c_doSub a b ha hb h1 h2 h3
theorem g_doMul {a b : Rat} (h : MulOk a b) : cw f_conversion_steps_do [.loc 1000 1 0 0, .fn f_ratio_Mul [], aR a, aR b] (mS 0) = some (r_conversion_steps_do.enc (ofR (a * b), ⟨0⟩)) := by
  obtain ⟨n, d, n', d', ha, hb, h1, h3⟩ := h
  exact c_doMul a b ha hb h1 h3
theorem g_doDiv {a b : Rat} (h : DivOk a b) : cw f_conversion_steps_do [.loc 1000 1 0 0, .fn f_ratio_Div [], aR a, aR b] (mS 0) = some (r_conversion_steps_do.enc (ofR (a / b), ⟨0⟩)) := by
  obtain ⟨h0, n, d, n', d', ha, hb, h1, h3⟩ := h
  exact c_doDiv a b ha hb h0 h1 h3

theorem g_slope {p q : Pt} (h : SlOk p q) :
    cw f_conversion_steps_slope [.loc 1000 1 0 0, .agg (dGPoint.enc (ofP p)), .agg (dGPoint.enc (ofP q))] (mS 0) = some (r_conversion_steps_slope.enc (ofR (sl p q), ⟨0⟩)) := by
  refine e_conversion_steps_slope _ _ _ ?_
  show callD r_conversion_steps_do (cw f_conversion_steps_do [.loc 1000 1 0 0, .fn f_ratio_Sub [], aR q.2, aR p.2] (mS 0)) _ = _
  rw [callD_of (g_doSub h.1)]
  show callD r_conversion_steps_do (cw f_conversion_steps_do [.loc 1000 1 0 0, .fn f_ratio_Sub [], aR q.1, aR p.1] (mS 0)) _ = _
  rw [callD_of (g_doSub h.2.1)]
  show callD r_conversion_steps_do (cw f_conversion_steps_do [.loc 1000 1 0 0, .fn f_ratio_Div [], aR (q.2 - p.2), aR (q.1 - p.1)] (mS 0)) _ = _
  rw [callD_of (g_doDiv h.2.2)]
  rfl

theorem g_eval (l : List Pt) (x : Rat) (ha : Asc l) (hl : 2 ≤ l.length) (hl2 : l.length ≤ 410) (hv : AllV l) (hx : VOk x) (he : Each l fun p q => EvOk p q x) :
    cw f_conversion_eval [.sl 4 (ptsE l), aR x] [] = some (r_conversion_eval.enc (ofR (cv l x), 0)) := by
  obtain ⟨r, r1, r2, r3, r4⟩ := k_Search l x hv.pb hx (by omega) (by omega) (by omega) (by omega) (by omega) (l.length - 2) 0 (l.length - 2) (by omega) (by omega) (.inl rfl) (.inl (by omega))
  have hs : cw f_sort_Search [I ((l.length - 2 : Nat) : Int), .fn f_conversion_eval_1 [.fp [I (ofR x).Num, I (ofR x).Den], .fp [.sl 4 (ptsE l)]]] [] = some (r_sort_Search.enc (r : Int)) := e_sort_Search_eval _ (ofR x) (l.map ofP) r1
  have hp : l[r]? = some l[r] := List.getElem?_eq_getElem (by omega)
  have hq : l[r + 1]? = some l[r + 1] := List.getElem?_eq_getElem (by omega)
  generalize l[r] = p at hp
  generalize l[r + 1] = q at hq
  have hval : cv l x = ln p (sl p q) x := ev_at l r x p q ha hp hq (by
    rcases r3 with r3 | ⟨p', h, h'⟩
    · exact .inl r3
    · rw [hp] at h; injection h with h; rw [h]; exact .inr h') (by
    rcases r4 with r4 | ⟨q', h, h'⟩
    · exact .inl r4
    · rw [hq] at h; injection h with h; rw [h]; exact .inr h')
  have hk := he r p q hp hq
  refine e_conversion_eval (l.map ofP) (ofR x) ?_
  have e0 : w64 (w64 (((ptsE l).length : Int) - 1) - 1) = ((l.length - 2 : Nat) : Int) := by
    rw [lenP, w64_id (n := (l.length : Int) - 1) (by omega) (by omega), w64_id (by omega) (by omega)]; omega
  have e1 : w64 (1 + (r : Int)) = ((r + 1 : Nat) : Int) := by rw [w64_id (by omega) (by omega)]; omega
  have e2 : w64 (((r + 1 : Nat) : Int) - 1) = (r : Int) := by rw [w64_id (by omega) (by omega)]; omega
  rw [e0, callD_of hs, e1, e2, chk_pos (by omega), Int.toNat_natCast, elemP hp, chk_pos (by omega), Int.toNat_natCast, elemP hq, callD_of (g_slope hk.1)]
  show callD r_conversion_steps_do (cw f_conversion_steps_do [.loc 1000 1 0 0, .fn f_ratio_Sub [], aR x, aR p.1] (mS 0)) _ = _
  rw [callD_of (g_doSub hk.2.1)]
  show callD r_conversion_steps_do (cw f_conversion_steps_do [.loc 1000 1 0 0, .fn f_ratio_Mul [], aR (x - p.1), aR (sl p q)] (mS 0)) _ = _
  rw [callD_of (g_doMul hk.2.2.1)]
  show callD r_conversion_steps_do (cw f_conversion_steps_do [.loc 1000 1 0 0, .fn f_ratio_Add [], aR p.2, aR ((x - p.1) * sl p q)] (mS 0)) _ = _
  rw [callD_of (g_doAdd hk.2.2.2), hval]
  rfl

theorem g_pointAt (l : List Pt) (x : Rat) (ha : Asc l) (hl : 2 ≤ l.length) (hl2 : l.length ≤ 410) (hv : AllV l) (hx : VOk x) (he : Each l fun p q => EvOk p q x) :
    cw f_conversion_pointAt [.sl 4 (ptsE l), aR x] [] = some (r_conversion_pointAt.enc (ofP (x, cv l x), 0)) := by
  refine e_conversion_pointAt (l.map ofP) (ofR x) ?_
  rw [callD_of (g_eval l x ha hl hl2 hv hx he), brn_f (by rfl)]
  rfl

theorem gk_bends (l : List Pt) (hl : l.length ≤ 410) (hs : Each l SlOk) :
    ∀ (r pre : List Pt) (p q : Pt) (found : List Pt), l = pre ++ p :: q :: r → found.length ≤ pre.length →
      k_conversion_bends_1 (l.map ofP) (ptsE found) ⟨0⟩ (ofR (sl p q)) ((pre.length + 1 : Nat) : Int) = some (r_conversion_bends.enc ((found ++ bn (p :: q :: r)).map ofP, 0)) := by
  intro r
  induction r with
  | nil =>
    intro pre p q found he hf
    refine t_conversion_bends_1 _ _ _ _ _ ?_
    have hlen : l.length = pre.length + 2 := by rw [he]; simp
    have e : w64 (((pre.length + 1 : Nat) : Int) + 1) = ((pre.length + 2 : Nat) : Int) := by rw [w64_id (by omega) (by omega)]; omega
    rw [e, brn_dec, if_neg (by rw [lenP]; omega), brn_f (by rfl), chk_pos (by omega), List.take_length]
    show _ = some (r_conversion_bends.enc ((found ++ []).map ofP, 0))
    rw [List.append_nil]
  | cons s r ih =>
    intro pre p q found he hf
    have hlen : l.length = pre.length + 3 + r.length := by rw [he]; simp; omega
    have e : w64 (((pre.length + 1 : Nat) : Int) + 1) = ((pre.length + 2 : Nat) : Int) := by rw [w64_id (by omega) (by omega)]; omega
    have hq : l[pre.length + 1]? = some q := by
      rw [he, List.getElem?_append_right (by omega), show pre.length + 1 - pre.length = 1 by omega]; rfl
    have hss : l[pre.length + 1 + 1]? = some s := by
      rw [he, List.getElem?_append_right (by omega), show pre.length + 1 + 1 - pre.length = 2 by omega]; rfl
    have he' : l = (pre ++ [p]) ++ q :: s :: r := by rw [he]; simp
    refine t_conversion_bends_1 _ _ _ _ _ ?_
    rw [e, brn_dec, if_pos (by rw [lenP]; omega), chk_pos (by omega), Int.toNat_natCast, elemP hq, chk_pos (by omega), Int.toNat_natCast, elemP hss, callD_of (g_slope (hs _ _ _ hq hss))]
    show brn (!((ofR (sl q s)).Num == (ofR (sl p q)).Num && ((ofR (sl q s)).Den == (ofR (sl p q)).Den && true))) _ _ = _
    rw [eqR, brn_not, brn_dec]
    have ih1 := ih (pre ++ [p]) q s found he' (by simp; omega)
    have ih2 := ih (pre ++ [p]) q s (found ++ [q]) he' (by simp; omega)
    have el : (pre ++ [p]).length + 1 = pre.length + 2 := by simp
    rw [el] at ih1 ih2
    unfold bn
    by_cases hc : sl q s = sl p q
    · rw [if_pos hc, if_pos hc]
      exact ih1
    · rw [if_neg hc, if_neg hc, chk_pos (by omega), elemP hq, chk_pos rfl, chk_pos (by rw [lenP]; omega), chk_pos rfl]
      have ea : ptsE found ++ [dGPoint.enc (ofP q)] = ptsE (found ++ [q]) := by simp only [ptsE, List.map_append, List.map_cons, List.map_nil]
      rw [ea]
      have eb : found ++ q :: bn (q :: s :: r) = (found ++ [q]) ++ bn (q :: s :: r) := by simp
      rw [eb]
      exact ih2

theorem g_bends (l : List Pt) (hl : 2 ≤ l.length) (hl2 : l.length ≤ 410) (hs : Each l SlOk) :
    cw f_conversion_bends [.sl 4 (ptsE l)] [] = some (r_conversion_bends.enc ((bn l).map ofP, 0)) := by
  match l, hl, hl2, hs with
  | p :: q :: r, hl, hl2, hs =>
    refine e_conversion_bends ((p :: q :: r).map ofP) ?_
    have hp : (p :: q :: r)[Int.toNat 0]? = some p := rfl
    have hq : (p :: q :: r)[Int.toNat 1]? = some q := rfl
    rw [chk_pos (by omega), elemP hp, chk_pos (by omega), elemP hq, callD_of (g_slope (hs 0 p q rfl rfl))]
    exact gk_bends (p :: q :: r) hl2 hs r [] p q [] rfl (Nat.le_refl _)

/-- the conditions of a normal form -/
structure NormOk (l : List Pt) : Prop where
  asc : Asc l
  len : 2 ≤ l.length
  len2 : l.length ≤ 410
  vals : AllV l
  sls : Each l SlOk
  lft : VOk (lf (bn l)) ∧ Each l fun p q => EvOk p q (lf (bn l))
  rgt : VOk (rt (bn l)) ∧ Each l fun p q => EvOk p q (rt (bn l))
  stp : ∀ p ∈ bn l, AddOk p.1 1

theorem g_normal (l : List Pt) (h : NormOk l) : cw f_conversion_normal [.sl 4 (ptsE l)] [] = some (r_conversion_normal.enc (⟨(nf l).map ofP⟩, 0)) := by
  obtain ⟨ha, hl, hl2, hv, hs, hlf, hrt, hst⟩ := h
  have c1 := g_pointAt l (lf (bn l)) ha hl hl2 hv hlf.1 hlf.2
  have c2 := g_pointAt l (rt (bn l)) ha hl hl2 hv hrt.1 hrt.2
  have hlen := bn_len l hl
  refine e_conversion_normal (l.map ofP) ?_
  rw [callD_of (g_bends l hl hl2 hs), brn_f (by rfl), callD_of (c_cwhole 0), callD_of (c_cwhole 1), brn_dec]
  show (if 0 < ((ptsE (bn l)).length : Int) then _ else _) = _
  have efin : ∀ (r : GPoint × Int) (s : GPoint × Int), r = (ofP (lf (bn l), cv l (lf (bn l))), 0) → s = (ofP (rt (bn l), cv l (rt (bn l))), 0) →
      ((([[I r.fst.X.Num, I r.fst.X.Den, I r.fst.Y.Num, I r.fst.Y.Den]]) ++ (ptsE (bn l))) ++ ([[I s.fst.X.Num, I s.fst.X.Den, I s.fst.Y.Num, I s.fst.Y.Den]])) = ptsE (nf l) := by
    intro r s hr hs
    subst hr; subst hs
    unfold nf
    simp only [ptsE, List.map_append, List.map_cons, List.map_nil, List.cons_append, List.nil_append]
  have hll : w64 (((ptsE (bn l)).length : Int) + 2) = (bn l).length + 2 := by rw [lenP, w64_id (by omega) (by omega)]
  by_cases hne : bn l = []
  · rw [if_neg (by rw [hne]; simp)]
    refine t_conversion_normal_1009v1 _ _ _ _ ?_
    rw [hne] at c1 c2
    show callD r_conversion_pointAt (cw f_conversion_pointAt [.sl 4 (ptsE l), aR (lf [])] []) _ = _
    rw [callD_of c1, brn_f (by rfl)]
    show callD r_conversion_pointAt (cw f_conversion_pointAt [.sl 4 (ptsE l), aR (rt [])] []) _ = _
    rw [callD_of c2, brn_f (by rfl), brn_dec]
    show (if 410 < w64 (((ptsE (bn l)).length : Int) + 2) then _ else _) = _
    rw [hll, if_neg (by omega), chk_pos rfl, chk_pos (by rw [lenP]; omega), chk_pos rfl, chk_pos (by rw [List.length_append, lenP]; simp; omega), chk_pos (by omega)]
    have := efin _ _ (by rw [hne]) (by rw [hne])
    rw [List.take_of_length_le (by exact Nat.le_refl _)]
    show some (AV.tup [.agg [.sl 4 (([[I (ofP ((lf [], cv l (lf [])))).X.Num, _, _, _]] ++ ptsE (bn l)) ++ [[_, _, _, _]])], I 0], ([] : Mem)) = _
    rw [this]
  · obtain ⟨a, t, hat⟩ := List.exists_cons_of_ne_nil hne
    have hpos : 0 < (bn l).length := List.length_pos_iff.2 hne
    have hA : (bn l)[Int.toNat 0]? = some a := by rw [hat]; rfl
    have hZ : (bn l)[(bn l).length - 1]? = some ((bn l).getLast hne) := by rw [← List.getLast?_eq_getElem?, List.getLast?_eq_some_getLast hne]
    have ba : AddOk a.1 ((1 : Int) : Rat) := hst a (by rw [hat]; simp)
    have bz : AddOk ((bn l).getLast hne).1 ((1 : Int) : Rat) := hst _ (List.getLast_mem hne)
    have elf : lf (bn l) = a.1 - 1 := by rw [hat]; rfl
    have ert : rt (bn l) = ((bn l).getLast hne).1 + 1 := by
      have : ∀ (m : List Pt) (hm : m ≠ []), rt m = (m.getLast hm).1 + 1 := fun m hm => by cases m with
        | nil => exact absurd rfl hm
        | cons a r => rfl
      exact this _ hne
    rw [if_pos (by rw [lenP]; omega), chk_pos (by omega)]
    show elemD dGPoint (ptsE (bn l)) (Int.toNat 0) _ = _
    rw [elemP hA, callD_of (c_cwhole 1)]
    show callD r_conversion_steps_do (cw f_conversion_steps_do [.loc 1000 1 0 0, .fn f_ratio_Sub [], aR a.1, aR ((1 : Int) : Rat)] (mS 0)) _ = _
    rw [callD_of (g_doSub ba)]
    show chk (0 ≤ w64 (((ptsE (bn l)).length : Int) - 1)) (elemD dGPoint (ptsE (bn l)) (w64 (((ptsE (bn l)).length : Int) - 1)).toNat _) = _
    have ez : w64 (((ptsE (bn l)).length : Int) - 1) = (((bn l).length - 1 : Nat) : Int) := by rw [lenP, w64_id (by omega) (by omega)]; omega
    rw [ez, chk_pos (by omega), Int.toNat_natCast, elemP hZ, callD_of (c_cwhole 1)]
    show callD r_conversion_steps_do (cw f_conversion_steps_do [.loc 1000 1 0 0, .fn f_ratio_Add [], aR ((bn l).getLast hne).1, aR ((1 : Int) : Rat)] (mS 0)) _ = _
    rw [callD_of (g_doAdd bz)]
    refine t_conversion_normal_1009 _ _ _ _ ?_
    rw [brn_f (by rfl)]
    have c1' : cw f_conversion_pointAt [.sl 4 (ptsE l), aR (a.1 - ((1 : Int) : Rat))] [] = some (r_conversion_pointAt.enc (ofP (lf (bn l), cv l (lf (bn l))), 0)) := by
      have e : a.1 - ((1 : Int) : Rat) = lf (bn l) := by rw [elf]; rfl
      rw [e]; exact c1
    have c2' : cw f_conversion_pointAt [.sl 4 (ptsE l), aR (((bn l).getLast hne).1 + ((1 : Int) : Rat))] [] = some (r_conversion_pointAt.enc (ofP (rt (bn l), cv l (rt (bn l))), 0)) := by
      have e : ((bn l).getLast hne).1 + ((1 : Int) : Rat) = rt (bn l) := by rw [ert]; rfl
      rw [e]; exact c2
    show callD r_conversion_pointAt (cw f_conversion_pointAt [.sl 4 (ptsE l), aR (a.1 - ((1 : Int) : Rat))] []) _ = _
    rw [callD_of c1', brn_f (by rfl)]
    show callD r_conversion_pointAt (cw f_conversion_pointAt [.sl 4 (ptsE l), aR (((bn l).getLast hne).1 + ((1 : Int) : Rat))] []) _ = _
    rw [callD_of c2', brn_f (by rfl), brn_dec]
    show (if 410 < w64 (((ptsE (bn l)).length : Int) + 2) then _ else _) = _
    rw [hll, if_neg (by omega), chk_pos rfl, chk_pos (by rw [lenP]; omega), chk_pos rfl, chk_pos (by rw [List.length_append, lenP]; simp; omega), chk_pos (by omega)]
    have := efin _ _ rfl rfl
    rw [List.take_of_length_le (by exact Nat.le_refl _)]
    show some (AV.tup [.agg [.sl 4 (([[I (ofP ((lf (bn l), cv l (lf (bn l))))).X.Num, _, _, _]] ++ ptsE (bn l)) ++ [[_, _, _, _]])], I 0], ([] : Mem)) = _
    rw [this]

theorem g_CValid (l : List Pt) (ha : Asc l) (hl : 2 ≤ l.length) (hl2 : l.length ≤ 410) (hv : AllV l) : cw f_conversion_Valid [aC l] [] = some (r_conversion_Valid.enc true) :=
  c_CValid l ha hl hl2 hv.pb (by omega) (by omega) (by omega) (by omega)

theorem g_Normal (l : List Pt) (h : NormOk l) : cw f_conversion_Normal [aC l] [] = some (r_conversion_Normal.enc (⟨(nf l).map ofP⟩, 0)) := by
  refine e_conversion_Normal _ ?_
  rw [callD_of (g_CValid l h.asc h.len h.len2 h.vals), brn_nt, callD_of (g_normal l h)]

theorem g_Eval (l : List Pt) (x : Rat) (ha : Asc l) (hl : 2 ≤ l.length) (hl2 : l.length ≤ 410) (hv : AllV l) (hx : VOk x) (he : Each l fun p q => EvOk p q x) :
    cw f_conversion_Eval [aC l, aR x] [] = some (r_conversion_Eval.enc (ofR (cv l x), 0)) := by
  refine e_conversion_Eval _ _ ?_
  rw [callD_of (g_CValid l ha hl hl2 hv), brn_nt, callD_of (g_Valid hx), brn_nt, callD_of (g_eval l x ha hl hl2 hv hx he)]

theorem g_SameT (l m : List Pt) (h : NormOk l) (h' : NormOk m) (he : nf m = nf l) : cw f_conversion_Same [aC l, aC m] [] = some (r_conversion_Same.enc true) := by
  refine e_conversion_Same _ _ ?_
  have hlen : (nf l).length ≤ 410 := by have := bn_len l h.len; have := h.len2; unfold nf; simp; omega
  rw [callD_of (g_Normal l h), brn_f (by rfl), callD_of (g_Normal m h'), brn_t (by rfl), he, callD_of (c_EqualT (nf l) (by omega))]

theorem g_Line {s t : Rat} (h : AddOk s t) (hs : VOk s) (ht : VOk t) (h0 : 0 < s) : cw f_conversion_Line [aR s, aR t] [] = some (r_conversion_Line.enc (⟨[((0 : Rat), t), ((1 : Rat), s + t)].map ofP⟩, 0)) := by
  refine e_conversion_Line _ _ ?_
  have hn : 0 < s.num := by
    have := (Rat.lt_iff 0 s).1 h0
    simpa using this
  rw [callD_of (g_Valid hs), brn_nt, callD_of (g_Valid ht), brn_nt, brn_dec, if_neg (by rw [oN]; omega), callD_of (g_Add h), brn_f (by rfl), callD_of (c_cwhole 0), callD_of (c_cwhole 1)]
  rfl
end Go.Proofs.Ytapkemilafogjaa
