/- Conversion: the inverse. -/
import Derived.Test.YtapkemilafogjaaConvG
namespace Go.Proofs.Ytapkemilafogjaa
open Go.Ab Go.Pure
set_option linter.unusedVariables false

theorem k_exchanged (l : List Pt) (hl : l.length ≤ 1000000) : ∀ (k i : Nat) (m : List GPoint), i + k = l.length → m.length = l.length →
    k_conversion_exchanged_1 (l.map ofP) (List.map dGPoint.enc m) (i : Int) = some (r_conversion_exchanged.enc (m.take i ++ ((ex l).drop i).map ofP)) := by
  intro k
  induction k with
  | zero =>
    intro i m hi hm
    refine t_conversion_exchanged_1 _ _ _ ?_
    rw [brn_dec, if_neg (by rw [lenP]; omega), chk_pos (by rw [List.length_replicate, lenP, Int.toNat_natCast, List.length_map, hm]), List.take_of_length_le (by omega), List.drop_eq_nil_of_le (by rw [ex_len]; omega), List.map_nil, List.append_nil]
  | succ k ih =>
    intro i m hi hm
    have hp : l[i]? = some l[i] := List.getElem?_eq_getElem (by omega)
    have e : w64 ((i : Int) + 1) = ((i + 1 : Nat) : Int) := by rw [w64_id (by omega) (by omega)]; omega
    refine t_conversion_exchanged_1 _ _ _ ?_
    rw [brn_dec, if_pos (by rw [lenP]; omega), chk_pos (by omega), Int.toNat_natCast, elemP hp, chk_pos (by omega), chk_pos (by rw [List.length_replicate, lenP, Int.toNat_natCast]; omega), Nat.zero_add, elemD_get (D := dGPoint) (l := m) (i := i) (by omega), e]
    have ih' := ih (i + 1) (m.set i (ofP ((l[i]).2, (l[i]).1))) (by omega) (by rw [List.length_set]; exact hm)
    have es : List.set (List.map dGPoint.enc m) i (dGPoint.enc (⟨⟨(ofP l[i]).Y.Num, (ofP l[i]).Y.Den⟩, ⟨(ofP l[i]).X.Num, (ofP l[i]).X.Den⟩⟩ : GPoint)) = List.map dGPoint.enc (m.set i (ofP ((l[i]).2, (l[i]).1))) := by
      show List.set (List.map dGPoint.enc m) i (dGPoint.enc (ofP ((l[i]).2, (l[i]).1))) = _
      rw [← List.map_set]
    rw [es, ih']
    congr 2
    have hx : (ex l).drop i = ((l[i]).2, (l[i]).1) :: (ex l).drop (i + 1) := by
      rw [List.drop_eq_getElem_cons (by rw [ex_len]; omega)]
      congr 1
      unfold ex
      rw [List.getElem_map]
    rw [hx, List.take_add_one, List.getElem?_set_self (by omega), List.take_set_of_le (Nat.le_refl i)]
    simp

theorem c_exchanged (l : List Pt) (hl : l.length ≤ 1000000) : cw f_conversion_exchanged [.sl 4 (ptsE l)] [] = some (r_conversion_exchanged.enc ((ex l).map ofP)) := by
  refine e_conversion_exchanged _ ?_
  have h := k_exchanged l hl l.length 0 (List.replicate l.length ⟨⟨0, 0⟩, ⟨0, 0⟩⟩) (by omega) (by simp)
  rw [List.take_zero, List.nil_append, List.drop_zero] at h
  rw [chk_pos rfl, chk_pos (by omega), chk_pos (by rw [lenP]; omega), ← h, List.map_replicate, lenP, Int.toNat_natCast]
  rfl

/-- the inverse of the normal form -/
theorem nf_ex_nf {l : List Pt} (h : Asc l) (hl : 2 ≤ l.length) : nf (ex (nf l)) = nf (ex l) := by
  have h1 := asc_nf h hl
  refine canon (ex_asc h1) (by rw [ex_len]; exact nf_len) (ex_asc h) (by rw [ex_len]; exact hl) (fun y => ?_)
  have e1 := ex_forth h hl y
  rw [← ev_nf h hl] at e1
  have e2 := ex_back h1 nf_len (cv (ex l) y)
  rw [e1] at e2
  exact e2
end Go.Proofs.Ytapkemilafogjaa
