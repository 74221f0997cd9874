/- The statement on composing. -/
import Derived.Test.YtiienbfdcgipnaaSz33
import Derived.Test.YtiienbfdcgipnaaCurve2
namespace Go.Proofs.Ytiienbfdcgipnaa
open Go.Ab Go.Pure Go.Sort
set_option linter.unusedVariables false

theorem unitF {l : List Pt} (ha : Asc l) (hl : 2 ≤ l.length) (hb : PB 5 0 5 0 l) (hs : ∀ t, IsSl l t → Bd 2 2 t) (r s : Nat) (x : Rat) (h : 5 + s ≤ r) (hx : Bd r s x) : Bd (r + 4 * 1) (s + 2 * 1) (cv l x) := by
  obtain ⟨i, p, q, hp, hq, c1, c2⟩ := seg l x hl
  rw [ev_at l i x p q ha hp hq c1 c2]
  have bp := hb p (List.mem_of_getElem? hp)
  have b1 : Bd (r + 1) s (x - p.1) := hx.sub bp.1 (by omega) (by omega) (by omega)
  have b2 : Bd (r + 3) (s + 2) ((x - p.1) * sl p q) := b1.mul (hs _ ⟨i, p, q, hp, hq, rfl⟩) (by omega) (by omega)
  unfold ln
  exact bp.2.add b2 (by omega) (by omega) (by omega)

theorem unitC {l : List Pt} (ha : Asc l) (hl : 2 ≤ l.length) (hb : PB 5 0 5 0 l) (hs : ∀ t, IsSl l t → Bd 2 2 t) : Cl 1 5 0 l where
  asc := ha
  len := hl
  xb := fun p hp => (hb p hp).1
  sb := hs
  fb := unitF ha hl hb hs
  ib := unitF (ex_asc ha) (by rw [ex_len]; exact hl) (pb_ex hb) (fun t ht => by
    obtain ⟨s, h1, rfl⟩ := ex_sl ht
    exact (hs s h1).inv)

theorem drawnC {m : List (Int × Int)} (ha : IAsc m) (hl : 2 ≤ m.length) (hb : ∀ p ∈ m, -4 ≤ p.1 ∧ p.1 ≤ 16 ∧ -4 ≤ p.2 ∧ p.2 ≤ 20) (hs : Stp m) : Cl 1 5 0 (m.map ofI) := by
  refine unitC (asc_of ha) (by rw [List.length_map]; exact hl) (pb_int (fun p hp => by have := hb p hp; constructor <;> (show _ ≤ 32; omega))) (fun t ht => ?_)
  obtain ⟨c, p, q, hp, hq, rfl⟩ := ht
  rw [List.getElem?_map] at hp hq
  obtain ⟨p', hp', rfl⟩ := Option.map_eq_some_iff.1 hp
  obtain ⟨q', hq', rfl⟩ := Option.map_eq_some_iff.1 hq
  have h1 := hs c p' q' hp' hq'
  obtain ⟨i1, e1⟩ := List.getElem?_eq_some_iff.1 hp'
  obtain ⟨i2, e2⟩ := List.getElem?_eq_some_iff.1 hq'
  have h2 := List.pairwise_iff_getElem.1 ha c (c + 1) i1 i2 (by omega)
  rw [e1, e2] at h2
  have b1 : Bd 2 0 ((q'.2 - p'.2 : Int) : Rat) := bd_int (by show _ ≤ 4; omega)
  have b2 : Bd 2 0 ((q'.1 - p'.1 : Int) : Rat) := bd_int (by show _ ≤ 4; omega)
  have e : sl (ofI p') (ofI q') = ((q'.2 - p'.2 : Int) : Rat) * ((q'.1 - p'.1 : Int) : Rat)⁻¹ := by
    unfold sl ofI
    rw [Rat.div_def, Rat.intCast_sub, Rat.intCast_sub]
  rw [e]
  exact b1.mul b2.inv (by omega) (by omega)

theorem idC : Cl 1 5 0 idL := by
  refine unitC idL_asc (by decide) (fun p hp => ?_) (fun t ht => ?_)
  · unfold idL at hp
    simp at hp
    rcases hp with rfl | rfl
    · exact ⟨zero0.mono (by omega) (by omega), zero0.mono (by omega) (by omega)⟩
    · exact ⟨one0.mono (by omega) (by omega), one0.mono (by omega) (by omega)⟩
  · obtain ⟨c, p, q, hp, hq, rfl⟩ := ht
    unfold idL at hp hq
    match c, hp, hq with
    | 0, hp, hq =>
      simp at hp hq
      subst hp
      subst hq
      have : sl ((0 : Rat), (0 : Rat)) ((1 : Rat), (1 : Rat)) = 1 := by kernel_rfl
      rw [this]
      exact one0.mono (by omega) (by omega)
    | c + 1, hp, hq => simp at hq

theorem k_Composes (A B' C D E F G H : GCurve) (d : GmarkDice) (w z y : GRatio) (res : AV × Mem)
    (h : (brn (w.Num == z.Num && (w.Den == z.Den && true)) (callD r_conversion_Same (cw f_conversion_Same [.agg (dGCurve.enc D), .agg (dGCurve.enc E)] []) fun (r21 : Bool) =>
    brn r21 (callD r_conversion_Same (cw f_conversion_Same [.agg (dGCurve.enc G), .agg (dGCurve.enc A)] []) fun (r22 : Bool) =>
     brn r22 (callD r_conversion_Same (cw f_conversion_Same [.agg (dGCurve.enc H), .agg (dGCurve.enc A)] []) fun (r23 : Bool) =>
      brn r23 (callD r_law33_sane (cw f_law33_sane [] []) fun (r24 : Bool) =>
       some (B r24, ([] : Mem)))
      (some (B false, [])))
     (some (B false, [])))
    (some (B false, [])))
   (some (B false, []))) = some res) : ∀ (k i : Nat), i + k = 10 → k_law33_ConversionComposes_1 (A, d) (B', 0) (C, 0) (D, 0) (E, 0) (F, 0) (G, 0) (H, 0) (y, 0) (z, 0) (w, 0) (i : Int) = some res := by
  intro k
  induction k with
  | zero =>
    intro i hi
    refine t_law33_ConversionComposes_1 _ _ _ _ _ _ _ _ _ _ _ _ ?_
    rw [brn_dec, if_neg (by omega)]
    exact h
  | succ k ih =>
    intro i hi
    refine t_law33_ConversionComposes_1 _ _ _ _ _ _ _ _ _ _ _ _ ?_
    have e : (List.replicate 10 (0 : Int))[((i : Nat) : Int).toNat]? = some 0 := by rw [Int.toNat_natCast, List.getElem?_replicate, if_pos (by omega)]
    rw [brn_dec, if_pos (by omega), chk_pos (by omega), chk_pos (by omega)]
    show elemD dI_i64 (List.map dI_i64.enc (List.replicate 10 (0 : Int))) _ _ = _
    have hw : w64 ((i : Int) + 1) = ((i + 1 : Nat) : Int) := by rw [w64_id (by omega) (by omega)]; omega
    rw [elemD_map (D := dI_i64) e, brn_f (by rfl), hw]
    exact ih (i + 1) (by omega)

theorem ec1 : EC 1 5 0 5 0 := by unfold EC; omega

theorem law_Composes (t : List Int) : cw f_law33_ConversionComposes [.sl 1 (List.map dI_i64.enc t)] [] = some (r_law33_ConversionComposes.enc true) := by
  refine e_law33_ConversionComposes t ?_
  rw [callD_of (c_Light t), callD_of c_sane]
  by_cases ht : (t.length : Int) ≤ 600
  case neg => rw [decide_eq_false ht]; rfl
  rw [decide_eq_true ht, brn_nt, callD_of (c_Roll t)]
  obtain ⟨m1, d1, h1, hd1, p1, p2, p3, p4, p5⟩ := c_Curve2 ⟨t, 0⟩ ⟨Int.le_refl _, by show t.length ≤ 600; omega⟩
  obtain ⟨m2, d2, h2, hd2, q1, q2, q3, q4, q5⟩ := c_Curve2 d1 hd1
  obtain ⟨m3, d3, h3, hd3, s1, s2, s3, s4, s5⟩ := c_Curve2 d2 hd2
  obtain ⟨x, d4, h4, bx, hd4⟩ := c_DRatio d3 hd3
  rw [callD_of h1, callD_of h2, callD_of h3]
  have cf := drawnC p3 p1 p4 p5
  have cg := drawnC q3 q1 q4 q5
  have ch := drawnC s3 s1 s4 s5
  have lf1 : (m1.map ofI).length ≤ 5 := by rw [List.length_map]; exact p2
  have lg1 : (m2.map ofI).length ≤ 5 := by rw [List.length_map]; exact q2
  have lh1 : (m3.map ofI).length ≤ 5 := by rw [List.length_map]; exact s2
  generalize m1.map ofI = f at *
  generalize m2.map ofI = g at *
  generalize m3.map ofI = h at *
  have li : idL.length = 2 := rfl
  obtain ⟨fg, w1, c1, v1, n1⟩ := compC (n := 9) (d := 2) cf cg (by omega) (by omega) (by omega) (by omega) (by omega) (by omega) (by omega) (by unfold EC; omega) (by unfold EC; omega) (by unfold EC; omega) (by unfold EC; omega) (by unfold EC; omega) (by unfold EC; omega)
  obtain ⟨gh, w2, c2, v2, n2⟩ := compC (n := 9) (d := 2) cg ch (by omega) (by omega) (by omega) (by omega) (by omega) (by omega) (by omega) (by unfold EC; omega) (by unfold EC; omega) (by unfold EC; omega) (by unfold EC; omega) (by unfold EC; omega) (by unfold EC; omega)
  obtain ⟨a, w3, c3, v3, n3⟩ := compC (n := 13) (d := 4) c1 ch (by omega) (by omega) (by omega) (by omega) (by omega) (by omega) (by omega) (by unfold EC; omega) (by unfold EC; omega) (by unfold EC; omega) (by unfold EC; omega) (by unfold EC; omega) (by unfold EC; omega)
  obtain ⟨b, w4, c4, v4, n4⟩ := compC (n := 14) (d := 4) cf c2 (by omega) (by omega) (by omega) (by omega) (by omega) (by omega) (by omega) (by unfold EC; omega) (by unfold EC; omega) (by unfold EC; omega) (by unfold EC; omega) (by unfold EC; omega) (by unfold EC; omega)
  obtain ⟨u, w5, c5, v5, n5⟩ := compC (n := 9) (d := 2) idC cf (by omega) (by omega) (by omega) (by omega) (by omega) (by omega) (by omega) (by unfold EC; omega) (by unfold EC; omega) (by unfold EC; omega) (by unfold EC; omega) (by unfold EC; omega) (by unfold EC; omega)
  obtain ⟨v, w6, c6, v6, n6⟩ := compC (n := 9) (d := 2) cf idC (by omega) (by omega) (by omega) (by omega) (by omega) (by omega) (by omega) (by unfold EC; omega) (by unfold EC; omega) (by unfold EC; omega) (by unfold EC; omega) (by unfold EC; omega) (by unfold EC; omega)
  have cL : cw f_conversion_Line [aR ((1 : Int) : Rat), aR ((0 : Int) : Rat)] [] = some (r_conversion_Line.enc (⟨idL.map ofP⟩, 0)) :=
    lineE ▸ g_Line (s := ((1 : Int) : Rat)) (t := ((0 : Int) : Rat)) (AddOk.mk one0 zero0 (by omega) (by omega) (by omega)) (one0.mono (by omega) (by omega)) (zero0.mono (by omega) (by omega)) (by decide)
  have bx8 : Bd 8 3 x := bx.mono (by omega) (by omega)
  have bY : Bd 12 5 (cv f x) := cf.fb 8 3 x (by omega) bx8
  have nF : NormOk f := normC cf (by unfold EC; omega) (by omega)
  have nA : NormOk a := normC c3 (by unfold EC; omega) (by omega)
  have nB : NormOk b := normC c4 (by unfold EC; omega) (by omega)
  have nU : NormOk u := normC c5 (by unfold EC; omega) (by omega)
  have nV : NormOk v := normC c6 (by unfold EC; omega) (by omega)
  have eAB : nf b = nf a := canon c4.asc c4.len c3.asc c3.len (fun z => by rw [v4, v3, v2, v1])
  have eU : nf f = nf u := canon cf.asc cf.len c5.asc c5.len (fun z => by rw [v5, idL_cv])
  have eV : nf f = nf v := canon cf.asc cf.len c6.asc c6.len (fun z => by rw [v6, idL_cv])
  show callD r_conversion_Compose (cw f_conversion_Compose [aC f, aC g] []) _ = _
  rw [callD_of w1]
  show callD r_conversion_Compose (cw f_conversion_Compose [aC g, aC h] []) _ = _
  rw [callD_of w2]
  show callD r_conversion_Compose (cw f_conversion_Compose [aC fg, aC h] []) _ = _
  rw [callD_of w3]
  show callD r_conversion_Compose (cw f_conversion_Compose [aC f, aC gh] []) _ = _
  rw [callD_of w4, callD_of (c_lwhole 1), callD_of (c_lwhole 0)]
  show callD r_conversion_Line (cw f_conversion_Line [aR ((1 : Int) : Rat), aR ((0 : Int) : Rat)] []) _ = _
  rw [callD_of cL]
  show callD r_conversion_Compose (cw f_conversion_Compose [aC idL, aC f] []) _ = _
  rw [callD_of w5]
  show callD r_conversion_Compose (cw f_conversion_Compose [aC f, aC idL] []) _ = _
  rw [callD_of w6, callD_of h4]
  show callD r_conversion_Eval (cw f_conversion_Eval [aC f, aR x] []) _ = _
  rw [callD_of (g_Eval f x cf.asc cf.len (by omega) (cf.vals (by unfold EC; omega)) (bx.mono (by omega) (by omega)) (evC cf (by unfold EC; omega) bx8))]
  show callD r_conversion_Eval (cw f_conversion_Eval [aC g, aR (cv f x)] []) _ = _
  rw [callD_of (g_Eval g (cv f x) cg.asc cg.len (by omega) (cg.vals (by unfold EC; omega)) (bY.mono (by omega) (by omega)) (evC cg (by unfold EC; omega) bY))]
  show callD r_conversion_Eval (cw f_conversion_Eval [aC fg, aR x] []) _ = _
  rw [callD_of (g_Eval fg x c1.asc c1.len (by omega) (c1.vals (by unfold EC; omega)) (bx.mono (by omega) (by omega)) (evC c1 (by unfold EC; omega) bx8))]
  refine k_Composes _ _ _ _ _ _ _ _ _ _ _ _ _ ?_ 10 0 rfl
  rw [eqR, v1, decide_eq_true rfl, brn_T]
  show callD r_conversion_Same (cw f_conversion_Same [aC a, aC b] []) _ = _
  rw [callD_of (g_SameT a b nA nB eAB), brn_T]
  show callD r_conversion_Same (cw f_conversion_Same [aC u, aC f] []) _ = _
  rw [callD_of (g_SameT u f nU nF eU), brn_T]
  show callD r_conversion_Same (cw f_conversion_Same [aC v, aC f] []) _ = _
  rw [callD_of (g_SameT v f nV nF eV), brn_T, callD_of c_sane]
end Go.Proofs.Ytiienbfdcgipnaa
