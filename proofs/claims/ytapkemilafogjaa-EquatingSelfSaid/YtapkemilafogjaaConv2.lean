/- Conversion: what its exported functions compute on curves of small fractions. -/
import Derived.Test.YtapkemilafogjaaConv
namespace Go.Proofs.Ytapkemilafogjaa
open Go.Ab Go.Pure
set_option linter.unusedVariables false

theorem k_ascending (l : List Pt) {nx dx ny dy : Nat} (ha : Asc l) (hl : l.length ≤ 410) (hb : PB nx dx ny dy l) (h1 : nx ≤ 60) (h2 : dx ≤ 60) (h3 : ny ≤ 60) (h4 : dy ≤ 60) :
    ∀ (k i : Nat), i + k = l.length → k_conversion_ascending_1 (l.map ofP) (i : Int) = some (r_conversion_ascending.enc true) := by
  intro k
  induction k with
  | zero =>
    intro i hi
    refine t_conversion_ascending_1 _ _ ?_
    rw [brn_dec, if_neg (by rw [lenP]; omega)]
  | succ k ih =>
    intro i hi
    have hp : l[i]? = some l[i] := List.getElem?_eq_getElem (by omega)
    have bp := hb _ (List.mem_of_getElem? hp)
    have e : w64 ((i : Int) + 1) = ((i + 1 : Nat) : Int) := by rw [w64_id (by omega) (by omega)]; omega
    have ih' := ih (i + 1) (by omega)
    refine t_conversion_ascending_1 _ _ ?_
    rw [e, ih', brn_dec, if_pos (by rw [lenP]; omega), chk_pos (by omega), Int.toNat_natCast, elemP hp]
    show callD r_ratio_Valid (cw f_ratio_Valid [aR (l[i]).1] []) _ = _
    rw [callD_of (c_Valid _ bp.1 h1 h2), brn_nt]
    show callD r_ratio_Valid (cw f_ratio_Valid [aR (l[i]).2] []) _ = _
    rw [callD_of (c_Valid _ bp.2 h3 h4), brn_nt, brn_dec]
    by_cases h0 : 0 < (i : Int)
    · obtain ⟨j, rfl⟩ : ∃ j, i = j + 1 := ⟨i - 1, by omega⟩
      have hq : l[j]? = some l[j] := List.getElem?_eq_getElem (by omega)
      have bq := hb _ (List.mem_of_getElem? hq)
      have ea := asc_at ha hq hp
      have e2 : w64 (((j + 1 : Nat) : Int) - 1) = (j : Int) := by rw [w64_id (by omega) (by omega)]; omega
      rw [if_pos h0, e2, chk_pos (by omega), Int.toNat_natCast, elemP hq]
      show callD r_ratio_Less (cw f_ratio_Less [aR (l[j]).1, aR (l[j + 1]).1] []) _ = _
      rw [callD_of (c_Less _ _ bq.1 bp.1 h1 h2 h1 h2), decide_eq_true ea.1, brn_nt, chk_pos (by omega), elemP hq]
      show callD r_ratio_Less (cw f_ratio_Less [aR (l[j]).2, aR (l[j + 1]).2] []) _ = _
      rw [callD_of (c_Less _ _ bq.2 bp.2 h3 h4 h3 h4), decide_eq_true ea.2, brn_nt]
    · rw [if_neg h0]

noncomputable abbrev aC (l : List Pt) : AV := .agg (dGCurve.enc ⟨l.map ofP⟩)

theorem c_CValid (l : List Pt) {nx dx ny dy : Nat} (ha : Asc l) (hl : 2 ≤ l.length) (hl2 : l.length ≤ 410) (hb : PB nx dx ny dy l) (h1 : nx ≤ 60) (h2 : dx ≤ 60) (h3 : ny ≤ 60) (h4 : dy ≤ 60) :
    cw f_conversion_Valid [aC l] [] = some (r_conversion_Valid.enc true) := by
  refine e_conversion_Valid _ ?_
  have ka := e_conversion_ascending (l.map ofP) (k_ascending l ha hl2 hb h1 h2 h3 h4 l.length 0 (by omega))
  rw [brn_dec, if_pos (by show (2 : Int) ≤ ((ptsE l).length : Int); rw [lenP]; omega), brn_dec, if_pos (by show ((ptsE l).length : Int) ≤ 410; rw [lenP]; omega), callD_of ka]

theorem c_Normal (l : List Pt) {nx dx ny dy : Nat} (ha : Asc l) (hl : 2 ≤ l.length) (hl2 : l.length ≤ 410) (hb : PB nx dx ny dy l) (h1 : evN nx dx ny dy (nx + dx + 1) dx ≤ 60) (h2 : evD nx dx ny dy (nx + dx + 1) dx ≤ 60) :
    cw f_conversion_Normal [aC l] [] = some (r_conversion_Normal.enc (⟨(nf l).map ofP⟩, 0)) := by
  have h1' := h1
  have h2' := h2
  unfold evN at h1'
  unfold evD at h2'
  refine e_conversion_Normal _ ?_
  rw [callD_of (c_CValid l ha hl hl2 hb (by omega) (by omega) (by omega) (by omega)), brn_nt, callD_of (c_normal l ha hl hl2 hb h1 h2)]

theorem c_Eval (l : List Pt) (x : Rat) {nx dx ny dy nr dr : Nat} (ha : Asc l) (hl : 2 ≤ l.length) (hl2 : l.length ≤ 410) (hb : PB nx dx ny dy l) (hx : Bd nr dr x) (h1 : evN nx dx ny dy nr dr ≤ 60) (h2 : evD nx dx ny dy nr dr ≤ 60) :
    cw f_conversion_Eval [aC l, aR x] [] = some (r_conversion_Eval.enc (ofR (cv l x), 0)) := by
  have h1' := h1
  have h2' := h2
  unfold evN at h1'
  unfold evD at h2'
  refine e_conversion_Eval _ _ ?_
  rw [callD_of (c_CValid l ha hl hl2 hb (by omega) (by omega) (by omega) (by omega)), brn_nt, callD_of (c_Valid x hx (by omega) (by omega)), brn_nt, callD_of (c_eval l x ha hl hl2 hb hx h1 h2)]

theorem c_EqualT (l : List Pt) (hl : l.length ≤ 1000000) :
    cw f_slices_Equal_api_Point_api_Point [.sl 4 (ptsE l), .sl 4 (ptsE l)] [] = some (r_slices_Equal_api_Point_api_Point.enc true) := by
  have key : ∀ (k i : Nat), i + k = l.length → k_slices_Equal_api_Point_api_Point_1 (l.map ofP) (l.map ofP) (i : Int) = some (r_slices_Equal_api_Point_api_Point.enc true) := by
    intro k
    induction k with
    | zero =>
      intro i hi
      refine t_slices_Equal_api_Point_api_Point_1 _ _ _ ?_
      rw [brn_dec, if_neg (by rw [lenP]; omega)]
    | succ k ih =>
      intro i hi
      have hp : l[i]? = some l[i] := List.getElem?_eq_getElem (by omega)
      have e : w64 ((i : Int) + 1) = ((i + 1 : Nat) : Int) := by rw [w64_id (by omega) (by omega)]; omega
      refine t_slices_Equal_api_Point_api_Point_1 _ _ _ ?_
      rw [e, ih (i + 1) (by omega), brn_dec, if_pos (by rw [lenP]; omega), chk_pos (by omega), Int.toNat_natCast, elemP hp, chk_pos (by omega), elemP hp]
      rw [brn_f (by simp)]
  refine e_slices_Equal_api_Point_api_Point _ _ ?_
  rw [brn_f (by simp)]
  exact key l.length 0 (by omega)

theorem c_SameT (l m : List Pt) {nx dx ny dy nx' dx' ny' dy' : Nat} (ha : Asc l) (hl : 2 ≤ l.length) (hl2 : l.length ≤ 410) (hb : PB nx dx ny dy l) (h1 : evN nx dx ny dy (nx + dx + 1) dx ≤ 60) (h2 : evD nx dx ny dy (nx + dx + 1) dx ≤ 60)
    (ha' : Asc m) (hm : 2 ≤ m.length) (hm2 : m.length ≤ 410) (hb' : PB nx' dx' ny' dy' m) (h3 : evN nx' dx' ny' dy' (nx' + dx' + 1) dx' ≤ 60) (h4 : evD nx' dx' ny' dy' (nx' + dx' + 1) dx' ≤ 60) (he : nf m = nf l) :
    cw f_conversion_Same [aC l, aC m] [] = some (r_conversion_Same.enc true) := by
  refine e_conversion_Same _ _ ?_
  have hlen : (nf l).length ≤ 410 := by have := bn_len l hl; unfold nf; simp; omega
  rw [callD_of (c_Normal l ha hl hl2 hb h1 h2), brn_f (by rfl), callD_of (c_Normal m ha' hm hm2 hb' h3 h4), brn_t (by rfl), he, callD_of (c_EqualT (nf l) (by omega))]

theorem c_Line (s t : Rat) {n d n' d' : Nat} (hs : Bd n d s) (ht : Bd n' d' t) (h0 : 0 < s) (h1 : n + d' + 1 ≤ 60) (h2 : n' + d + 1 ≤ 60) (h3 : d + d' ≤ 60) :
    cw f_conversion_Line [aR s, aR t] [] = some (r_conversion_Line.enc (⟨[((0 : Rat), t), ((1 : Rat), s + t)].map ofP⟩, 0)) := by
  refine e_conversion_Line _ _ ?_
  have hn : 0 < s.num := by
    have := (Rat.lt_iff 0 s).1 h0
    simpa using this
  rw [callD_of (c_Valid s hs (by omega) (by omega)), brn_nt, callD_of (c_Valid t ht (by omega) (by omega)), brn_nt, brn_dec, if_neg (by rw [oN]; omega), callD_of (c_Add s t hs ht h1 h2 h3), brn_f (by rfl), callD_of (c_cwhole 0), callD_of (c_cwhole 1)]
  rfl

/-- rounded to the nearest, a half up -/
def rnd (a : Rat) : Int := (2 * a.num + a.den) / (2 * a.den)

/-- a rounded value within 0 and the greatest -/
def cut (most v : Int) : Int := if most < if 0 > v then 0 else v then most else if 0 > v then 0 else v

theorem pb_int {l : List (Int × Int)} {n : Nat} (h : ∀ p ∈ l, p.1.natAbs ≤ 2 ^ n ∧ p.2.natAbs ≤ 2 ^ n) : PB n 0 n 0 (l.map ofI) := by
  intro p hp
  obtain ⟨q, hq, rfl⟩ := List.mem_map.1 hp
  have := h q hq
  exact ⟨bd_int this.1, bd_int this.2⟩

theorem rnd_mono {a b : Rat} (h : a ≤ b) : rnd a ≤ rnd b := by
  have pa : (0 : Int) < a.den := by have := a.den_pos; omega
  have pb : (0 : Int) < b.den := by have := b.den_pos; omega
  have h' : a.num * (b.den : Int) ≤ b.num * (a.den : Int) := (Rat.le_iff a b).1 h
  unfold rnd
  rw [Int.le_ediv_iff_mul_le (by omega)]
  have h1 := Int.ediv_mul_le (2 * a.num + a.den) (show (2 * (a.den : Int)) ≠ 0 by omega)
  generalize (2 * a.num + (a.den : Int)) / (2 * (a.den : Int)) = q at *
  generalize (a.den : Int) = A at *
  generalize (b.den : Int) = B at *
  have h2 := Int.mul_le_mul_of_nonneg_right h1 (show 0 ≤ B by omega)
  have h3 : q * (2 * B) * A ≤ (2 * b.num + B) * A := by grind
  exact Int.le_of_mul_le_mul_right h3 pa

theorem rnd_near (a : Rat) : (2 * rnd a - 1) * (a.den : Int) ≤ a.num * 2 ∧ a.num * 2 < (2 * rnd a + 1) * (a.den : Int) := by
  have pa : (0 : Int) < a.den := by have := a.den_pos; omega
  unfold rnd
  have h1 := Int.ediv_mul_le (2 * a.num + a.den) (show (2 * (a.den : Int)) ≠ 0 by omega)
  have h2 := Int.lt_ediv_add_one_mul_self (2 * a.num + a.den) (show 0 < (2 * (a.den : Int)) by omega)
  generalize (2 * a.num + (a.den : Int)) / (2 * (a.den : Int)) = q at *
  generalize (a.den : Int) = A at *
  constructor <;> grind

theorem cut_bd {most v : Int} (h : 0 ≤ most) : 0 ≤ cut most v ∧ cut most v ≤ most := by
  unfold cut
  split <;> split <;> omega

theorem cut_mono {most v w : Int} (h : v ≤ w) : cut most v ≤ cut most w := by
  unfold cut
  split <;> split <;> split <;> (try split) <;> omega

theorem cut_in {most v : Int} (h0 : 0 < cut most v) (h1 : cut most v < most) : cut most v = v := by
  unfold cut at *
  split at h0 <;> rename_i h
  · rw [if_pos h] at h1; omega
  · rw [if_neg h] at h1 ⊢
    split at h0 <;> rename_i h2
    · omega
    · rw [if_neg h2]

end Go.Proofs.Ytapkemilafogjaa
