/- The statements on conversion: rises, marks. -/
import Derived.Test.YtiienbfdcgipnaaConv2
import Derived.Test.YtiienbfdcgipnaaRef1
namespace Go.Proofs.Ytiienbfdcgipnaa
open Go.Ab Go.Pure
set_option linter.unusedVariables false

theorem k_Rises2 (l : List Pt) (d0 : GmarkDice) (e0 : Int) (ha : Asc l) (hl : 2 ≤ l.length) (hl2 : l.length ≤ 5) (hb : PB 5 0 5 0 l) :
    ∀ (k : Nat) (d : GmarkDice), DOk d → k ≤ 5 → k_law33_ConversionRises_2 (⟨l.map ofP⟩, d0) (⟨(nf l).map ofP⟩, e0) d ((5 - k : Nat) : Int) = some (r_law33_ConversionRises.enc true) := by
  have ha' := asc_nf ha hl
  have hb' := pb_nf hl hb
  have hn2 : (nf l).length ≤ 5 := by have := bn_len l hl; unfold nf; simp; omega
  intro k
  induction k with
  | zero =>
    intro d hd _
    refine t_law33_ConversionRises_2 _ _ _ _ ?_
    rw [brn_dec, if_neg (by omega), callD_of c_sane]
  | succ k ih =>
    intro d hd hk
    obtain ⟨x, d1, h1, bx, hd1⟩ := c_DRatio d hd
    obtain ⟨y, d2, h2, bY, hd2⟩ := c_DRatio d1 hd1
    have ih' := ih d2 hd2 (by omega)
    have e : w64 (((5 - (k + 1) : Nat) : Int) + 1) = ((5 - k : Nat) : Int) := by rw [w64_id (by omega) (by omega)]; omega
    refine t_law33_ConversionRises_2 _ _ _ _ ?_
    have b1 := bd_ev hl hb bx
    have b2 := bd_ev hl hb bY
    have g1 := c_Eval l x ha hl (by omega) hb bx (by decide) (by decide)
    have g2 := c_Eval l y ha hl (by omega) hb bY (by decide) (by decide)
    have g3 := c_Eval (nf l) x ha' nf_len (by omega) hb' bx (by decide) (by decide)
    rw [brn_dec, if_pos (by omega), callD_of h1, callD_of h2, callD_of g1, callD_of g2, callD_of g3, brn_f (by rfl), brn_f (by rfl), brn_f (by rfl)]
    show brn (!((ofR (cv (nf l) x)).Num == (ofR (cv l x)).Num && ((ofR (cv (nf l) x)).Den == (ofR (cv l x)).Den && true))) _ _ = _
    rw [eqR, ev_nf ha hl, decide_eq_true rfl, brn_nt]
    show callD r_ref01_Less (cw f_ref01_Less [aR x, aR y] []) _ = _
    rw [callD_of (c_rLess x y bx bY (by decide) (by decide) (by decide) (by decide))]
    show callD r_ref01_Less (cw f_ref01_Less [aR (cv l x), aR (cv l y)] []) _ = _
    rw [callD_of (c_rLess _ _ b1 b2 (by decide) (by decide) (by decide) (by decide))]
    have q1 : decide (cv l x < cv l y) = decide (x < y) := by rw [decide_eq_decide]; exact ev_lt ha hl
    have q2 : decide (cv l x = cv l y) = decide (x = y) := by rw [decide_eq_decide]; exact ev_inj ha hl
    rw [q1, brn_f (by simp)]
    show brn (!(((ofR x).Num == (ofR y).Num && ((ofR x).Den == (ofR y).Den && true))) == ((ofR (cv l x)).Num == (ofR (cv l y)).Num && ((ofR (cv l x)).Den == (ofR (cv l y)).Den && true))) _ _ = _
    rw [eqR, eqR, q2, brn_f (by simp), e]
    exact ih'

theorem k_Rises1 (l : List Pt) (d0 : GmarkDice) (e0 : Int) (hd0 : DOk d0) (ha : Asc l) (hl : 2 ≤ l.length) (hl2 : l.length ≤ 5) (hb : PB 5 0 5 0 l) :
    ∀ (k i : Nat), i + k = l.length → k_law33_ConversionRises_1 (⟨l.map ofP⟩, d0) (⟨(nf l).map ofP⟩, e0) (i : Int) = some (r_law33_ConversionRises.enc true) := by
  intro k
  induction k with
  | zero =>
    intro i hi
    refine t_law33_ConversionRises_1 _ _ _ ?_
    rw [brn_dec, if_neg (by show ¬ (i : Int) < ((ptsE l).length : Int); rw [lenP]; omega)]
    exact k_Rises2 l d0 e0 ha hl hl2 hb 5 d0 hd0 (Nat.le_refl _)
  | succ k ih =>
    intro i hi
    have hp : l[i]? = some l[i] := List.getElem?_eq_getElem (by omega)
    have mp := List.mem_of_getElem? hp
    have bp := hb _ mp
    have e : w64 ((i : Int) + 1) = ((i + 1 : Nat) : Int) := by rw [w64_id (by omega) (by omega)]; omega
    refine t_law33_ConversionRises_1 _ _ _ ?_
    rw [brn_dec, if_pos (by show (i : Int) < ((ptsE l).length : Int); rw [lenP]; omega), chk_pos (by omega), Int.toNat_natCast]
    show elemD dGPoint (ptsE l) i _ = _
    rw [elemP hp]
    show callD r_conversion_Eval (cw f_conversion_Eval [aC l, aR (l[i]).1] []) _ = _
    rw [callD_of (c_Eval l _ ha hl (by omega) hb bp.1 (by decide) (by decide)), brn_f (by rfl)]
    show brn (!((ofR (cv l (l[i]).1)).Num == (ofR (l[i]).2).Num && ((ofR (cv l (l[i]).1)).Den == (ofR (l[i]).2).Den && true))) _ _ = _
    rw [eqR, ev_through ha hl _ mp, decide_eq_true rfl, brn_nt, e]
    exact ih (i + 1) (by omega)

theorem law_Rises (t : List Int) : cw f_law33_ConversionRises [.sl 1 (List.map dI_i64.enc t)] [] = some (r_law33_ConversionRises.enc true) := by
  refine e_law33_ConversionRises t ?_
  rw [callD_of (c_Light t), callD_of c_sane]
  by_cases ht : (t.length : Int) ≤ 600
  case neg => rw [decide_eq_false ht]; rfl
  rw [decide_eq_true ht, brn_nt, callD_of (c_Roll t)]
  obtain ⟨m, d1, h1, hd1, m1, m2, m3, m4⟩ := c_Curve ⟨t, 0⟩ ⟨Int.le_refl _, by show t.length ≤ 600; omega⟩
  rw [callD_of h1]
  have ha := asc_of m3
  have hb : PB 5 0 5 0 (m.map ofI) := pb_int (fun p hp => by have := m4 p hp; constructor <;> (show _ ≤ 32; omega))
  have hl : 2 ≤ (m.map ofI).length := by rw [List.length_map]; exact m1
  have hl2 : (m.map ofI).length ≤ 5 := by rw [List.length_map]; exact m2
  generalize m.map ofI = l at *
  have hn2 : (nf l).length ≤ 5 := by have := bn_len l hl; unfold nf; simp; omega
  have hb' := pb_nf hl hb
  rw [callD_of (c_Normal l ha hl (by omega) hb (by decide) (by decide)), brn_f (by rfl),
    callD_of (c_SameT l (nf l) ha hl (by omega) hb (by decide) (by decide) (asc_nf ha hl) nf_len (by omega) hb' (by decide) (by decide) (nf_nf ha hl)), brn_nt,
    callD_of (c_CValid (nf l) (asc_nf ha hl) nf_len (by omega) hb' (by decide) (by decide) (by decide) (by decide)), brn_nt]
  exact k_Rises1 l d1 0 hd1 ha hl hl2 hb l.length 0 (by omega)

theorem rnd_mono {a b : Rat} (h : a ≤ b) : rnd a ≤ rnd b := by
  have pa : (0 : Int) < a.den := by have := a.den_pos; omega
  have pb : (0 : Int) < b.den := by have := b.den_pos; omega
  have h' : a.num * (b.den : Int) ≤ b.num * (a.den : Int) := (Rat.le_iff a b).1 h
  unfold rnd
  rw [Int.le_ediv_iff_mul_le (by omega)]
  have h1 := Int.ediv_mul_le (2 * a.num + a.den) (show (2 * (a.den : Int)) ≠ 0 by omega)
  generalize (2 * a.num + (a.den : Int)) / (2 * (a.den : Int)) = q at *
  generalize (a.den : Int) = A at *
  generalize (b.den : Int) = B at *
  have h2 := Int.mul_le_mul_of_nonneg_right h1 (show 0 ≤ B by omega)
  have h3 : q * (2 * B) * A ≤ (2 * b.num + B) * A := by grind
  exact Int.le_of_mul_le_mul_right h3 pa

theorem rnd_near (a : Rat) : (2 * rnd a - 1) * (a.den : Int) ≤ a.num * 2 ∧ a.num * 2 < (2 * rnd a + 1) * (a.den : Int) := by
  have pa : (0 : Int) < a.den := by have := a.den_pos; omega
  unfold rnd
  have h1 := Int.ediv_mul_le (2 * a.num + a.den) (show (2 * (a.den : Int)) ≠ 0 by omega)
  have h2 := Int.lt_ediv_add_one_mul_self (2 * a.num + a.den) (show 0 < (2 * (a.den : Int)) by omega)
  generalize (2 * a.num + (a.den : Int)) / (2 * (a.den : Int)) = q at *
  generalize (a.den : Int) = A at *
  constructor <;> grind

theorem cut_bd {most v : Int} (h : 0 ≤ most) : 0 ≤ cut most v ∧ cut most v ≤ most := by
  unfold cut
  split <;> split <;> omega

theorem cut_mono {most v w : Int} (h : v ≤ w) : cut most v ≤ cut most w := by
  unfold cut
  split <;> split <;> split <;> (try split) <;> omega

theorem cut_in {most v : Int} (h0 : 0 < cut most v) (h1 : cut most v < most) : cut most v = v := by
  unfold cut at *
  split at h0 <;> rename_i h
  · rw [if_pos h] at h1; omega
  · rw [if_neg h] at h1 ⊢
    split at h0 <;> rename_i h2
    · omega
    · rw [if_neg h2]

theorem k_Marks (a1 : Int) (l : List Pt) (d0 : GmarkDice) (ha0 : 0 ≤ a1) (ha1 : a1 ≤ 255) (ha : Asc l) (hl : 2 ≤ l.length) (hl2 : l.length ≤ 5) (hb : PB 5 0 5 0 l) :
    ∀ (k i : Nat) (last : Int), i + k = 25 → (∀ j : Nat, i ≤ j → last ≤ cut (a1.tmod 60) (rnd (cv l ((j : Int) : Rat)))) → k_law33_ConversionMarks_1 a1 (⟨l.map ofP⟩, d0) last (i : Int) = some (r_law33_ConversionMarks.enc true) := by
  have hw : w64 a1 = a1 := w64_id (by omega) (by omega)
  have ht0 := Int.tmod_nonneg 60 ha0
  have ht1 := Int.tmod_lt_of_pos a1 (show (0 : Int) < 60 by omega)
  intro k
  induction k with
  | zero =>
    intro i last hi hlast
    refine t_law33_ConversionMarks_1 _ _ _ _ ?_
    rw [brn_dec, if_neg (by omega), callD_of c_sane]
  | succ k ih =>
    intro i last hi hlast
    have hx : Bd 8 0 ((i : Int) : Rat) := bd_int (by show (i : Int).natAbs ≤ 256; omega)
    have hv := bd_ev hl hb hx
    have e : w64 ((i : Int) + 1) = ((i + 1 : Nat) : Int) := by rw [w64_id (by omega) (by omega)]; omega
    have hc := cut_bd (most := a1.tmod 60) (v := rnd (cv l ((i : Int) : Rat))) ht0
    have hin := @cut_in (a1.tmod 60) (rnd (cv l ((i : Int) : Rat)))
    have hnear := rnd_near (cv l ((i : Int) : Rat))
    have hlt := hlast i (Nat.le_refl _)
    have ih' := ih (i + 1) (cut (a1.tmod 60) (rnd (cv l ((i : Int) : Rat)))) (by omega) (fun j hj => by
      refine cut_mono (rnd_mono ?_)
      have : ((i : Int) : Rat) < ((j : Int) : Rat) := Rat.intCast_lt_intCast.2 (by omega)
      have := ev_mono ha hl this
      grind)
    have hd1 : (cv l ((i : Int) : Rat)).num.natAbs ≤ 1048576 := Nat.le_trans hv.1 (by decide)
    have hd2 : (cv l ((i : Int) : Rat)).den ≤ 1048576 := Nat.le_trans hv.2 (by decide)
    refine t_law33_ConversionMarks_1 _ _ _ _ ?_
    rw [hw, brn_dec, if_pos (by omega), callD_of (c_Convert l i (a1.tmod 60) ha hl (by omega) hb (by omega) (by omega) (by omega) (by omega) (by decide) (by decide)), callD_of (c_lwhole i),
      callD_of (c_Eval l _ ha hl (by omega) hb hx (by decide) (by decide)), brn_f (by rfl), brn_f (by rfl)]
    dsimp only
    rw [oN, oD, e, ih']
    generalize cut (a1.tmod 60) (rnd (cv l ((i : Int) : Rat))) = n at *
    rw [brn_dec, if_neg (by omega), brn_dec, if_neg (by omega), brn_dec, if_neg (by omega), brn_dec, brn_dec, brn_dec, brn_dec]
    split
    · split
      · rename_i g1 g2
        have en := hin g1 g2
        rw [← en] at hnear
        have p0 : 0 ≤ n * ((cv l ((i : Int) : Rat)).den : Int) := Int.mul_nonneg (by omega) (by omega)
        have p1 : n * ((cv l ((i : Int) : Rat)).den : Int) ≤ 60 * ((cv l ((i : Int) : Rat)).den : Int) := Int.mul_le_mul_of_nonneg_right (by omega) (by omega)
        have m1 : (2 * n - 1) * ((cv l ((i : Int) : Rat)).den : Int) = 2 * (n * ((cv l ((i : Int) : Rat)).den : Int)) - ((cv l ((i : Int) : Rat)).den : Int) := by grind
        have m2 : (2 * n + 1) * ((cv l ((i : Int) : Rat)).den : Int) = 2 * (n * ((cv l ((i : Int) : Rat)).den : Int)) + ((cv l ((i : Int) : Rat)).den : Int) := by grind
        rw [w64_id (n := 2 * n) (by omega) (by omega), w64_id (n := 2 * n - 1) (by omega) (by omega), w64_id (n := 2 * n + 1) (by omega) (by omega), w64_id (n := (2 * n - 1) * _) (by omega) (by omega), w64_id (n := (2 * n + 1) * _) (by omega) (by omega),
          w64_id (n := _ * 2) (by omega) (by omega), if_neg (by omega), if_neg (by omega)]
      · rfl
    · rfl

theorem law_Marks (t : List Int) (n : Int) (hn : (Lit.int .u8 n).wf = true) : cw f_law33_ConversionMarks [.sl 1 (List.map dI_i64.enc t), .v (.int .u8 n)] [] = some (r_law33_ConversionMarks.enc true) := by
  have hn' : 0 ≤ n ∧ n ≤ 255 := by
    have := hn
    simp only [Lit.wf, Bool.and_eq_true, decide_eq_true_eq] at this
    exact ⟨this.1, this.2⟩
  refine e_law33_ConversionMarks t n ?_
  rw [callD_of (c_Light t), callD_of c_sane]
  by_cases ht : (t.length : Int) ≤ 600
  case neg => rw [decide_eq_false ht]; rfl
  rw [decide_eq_true ht, brn_nt, callD_of (c_Roll t)]
  obtain ⟨m, d1, h1, hd1, m1, m2, m3, m4⟩ := c_Curve ⟨t, 0⟩ ⟨Int.le_refl _, by show t.length ≤ 600; omega⟩
  rw [callD_of h1, chk_pos (by omega)]
  have ha := asc_of m3
  have hb : PB 5 0 5 0 (m.map ofI) := pb_int (fun p hp => by have := m4 p hp; constructor <;> (show _ ≤ 32; omega))
  exact k_Marks n (m.map ofI) d1 hn'.1 hn'.2 ha (by rw [List.length_map]; exact m1) (by rw [List.length_map]; exact m2) hb 25 0 0 (by omega) (fun j _ => (cut_bd (Int.tmod_nonneg 60 hn'.1)).1)
end Go.Proofs.Ytiienbfdcgipnaa
