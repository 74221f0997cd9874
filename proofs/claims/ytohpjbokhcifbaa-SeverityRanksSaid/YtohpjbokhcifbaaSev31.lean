/- Severity: what its functions compute. -/
import Derived.Test.YtohpjbokhcifbaaRatioN
import Derived.Test.YtohpjbokhcifbaaRef1b
import Derived.Test.YtohpjbokhcifbaaDice0
import Derived.Test.YtohpjbokhcifbaaPureS
namespace Go.Proofs.Ytohpjbokhcifbaa
open Go.Ab Go.Pure Go.PureS
set_option linter.unusedVariables false

def JOk (j : GJudged) : Prop := 1 ≤ j.Marker ∧ j.Marker ≤ 99 ∧ 0 ≤ j.Value ∧ j.Value ≤ 40 ∧ 0 ≤ j.Final ∧ j.Final ≤ 40
def RL (l : List GJudged) : Prop := l.length ≤ 500 ∧ ∀ j ∈ l, JOk j
noncomputable abbrev aJ (l : List GJudged) : AV := .sl 3 (List.map dGJudged.enc l)

theorem c_zero : cw f_severity_zero [] [] = some (r_severity_zero.enc ⟨0, 1⟩) := e_severity_zero rfl
theorem zero_of : (⟨0, 1⟩ : GRatio) = ofR 0 := rfl

theorem c_isMark (n : Int) : cw f_severity_isMark [I n] [] = some (r_severity_isMark.enc (decide (0 ≤ n ∧ n ≤ 40))) := by
  refine e_severity_isMark n ?_
  by_cases h : 0 ≤ n
  · rw [brn_dec, if_pos h]
    by_cases h2 : n ≤ 40
    · rw [decide_eq_true h2, decide_eq_true (show 0 ≤ n ∧ n ≤ 40 from ⟨h, h2⟩)]
    · rw [decide_eq_false h2, decide_eq_false (show ¬ (0 ≤ n ∧ n ≤ 40) from fun q => h2 q.2)]
  · rw [brn_dec, if_neg h, decide_eq_false (show ¬ (0 ≤ n ∧ n ≤ 40) from fun q => h q.1)]

theorem c_mark {n : Int} (h : 0 ≤ n) (h2 : n ≤ 40) : cw f_severity_isMark [I n] [] = some (r_severity_isMark.enc true) := by
  rw [c_isMark, decide_eq_true ⟨h, h2⟩]

theorem c_right1 {j : GJudged} (h : JOk j) : cw f_severity_right_1 [.agg (dGJudged.enc j)] [] = some (r_severity_right_1.enc false) := by
  obtain ⟨h1, h2, h3, h4, h5, h6⟩ := h
  refine e_severity_right_1 j ?_
  rw [brn_dec, if_neg (by omega), brn_dec, if_neg (by omega), callD_of (c_mark h3 h4), brn_nt, callD_of (c_mark h5 h6)]
  rfl

theorem c_idx {l : List GJudged} (h : RL l) : cw f_slices_IndexFunc_api_Judged_api_Judged [aJ l, .fn f_severity_right_1 []] [] = some (r_slices_IndexFunc_api_Judged_api_Judged.enc (-1)) := by
  obtain ⟨hl, hj⟩ := h
  refine e_slices_IndexFunc_api_Judged_api_Judged l ?_
  refine range_ind l (fun i r => (∀ j ∈ r, JOk j) → k_slices_IndexFunc_api_Judged_api_Judged_1 l (i : Nat) = some (r_slices_IndexFunc_api_Judged_api_Judged.enc (-1))) ?_ ?_ hj
  · intro _
    refine t_slices_IndexFunc_api_Judged_api_Judged_1 l _ ?_
    rw [List.length_map, brn_dec, if_neg (by omega)]
  · intro i x r hi hx hr ih hj
    refine t_slices_IndexFunc_api_Judged_api_Judged_1 l _ ?_
    have e1 : ((i : Int) + 1) = ((i + 1 : Nat) : Int) := by omega
    rw [List.length_map, brn_dec, if_pos (by omega), chk_pos (by omega), Int.toNat_natCast, elemD_get hi, hx, callD_of (c_right1 (hj x (by simp))), brn_F, w64_id (by omega) (by omega), e1]
    exact ih (fun j h => hj j (by simp [h]))

theorem c_right {l : List GJudged} (h : RL l) : cw f_severity_right [aJ l] [] = some (r_severity_right.enc true) := by
  refine e_severity_right l ?_
  have hc : cw f_slices_ContainsFunc_api_Judged_api_Judged [aJ l, .fn f_severity_right_1 []] [] = some (r_slices_ContainsFunc_api_Judged_api_Judged.enc false) := by
    refine e_slices_ContainsFunc_api_Judged_api_Judged l ?_
    rw [callD_of (c_idx h)]
    rfl
  have := h.1
  rw [List.length_map, brn_dec, if_neg (by omega), callD_of hc]
  rfl

/-! ## means -/

def sm (f : Int → Int) (m : Int) : List GJudged → Int
  | [] => 0
  | j :: t => (if j.Marker = m then f (j.Value - j.Final) else 0) + sm f m t
def ct (m : Int) : List GJudged → Nat
  | [] => 0
  | j :: t => (if j.Marker = m then 1 else 0) + ct m t
/-- the mean that a marker's pairs have, and whether there is one -/
def mnR (f : Int → Int) (m : Int) (l : List GJudged) : Rat := if ct m l = 0 then 0 else mkRat (sm f m l) (ct m l)
def has (m : Int) (l : List GJudged) : Bool := decide (ct m l ≠ 0)

theorem ct_le (m : Int) : ∀ l : List GJudged, ct m l ≤ l.length
  | [] => by simp [ct]
  | j :: t => by have := ct_le m t; simp only [ct, List.length_cons]; split <;> omega

def idF : Int → Int := fun d => d
def abF : Int → Int := fun d => if -d > d then -d else d
def agF : Int → Int := fun d => if d = 0 then 1 else 0

def Sm (f : Int → Int) : Prop := ∀ d, -40 ≤ d → d ≤ 40 → -40 ≤ f d ∧ f d ≤ 40
theorem sm_id : Sm idF := fun d h1 h2 => ⟨h1, h2⟩
theorem sm_ab : Sm abF := fun d h1 h2 => by unfold abF; split <;> omega
theorem sm_ag : Sm agF := fun d h1 h2 => by unfold agF; split <;> omega

theorem sm_bd {f : Int → Int} (hf : Sm f) (m : Int) : ∀ l : List GJudged, (∀ j ∈ l, JOk j) → -(40 * (l.length : Int)) ≤ sm f m l ∧ sm f m l ≤ 40 * (l.length : Int)
  | [], _ => by simp [sm]
  | j :: t, h => by
    have ih := sm_bd hf m t (fun x hx => h x (by simp [hx]))
    obtain ⟨h1, h2, h3, h4, h5, h6⟩ := h j (by simp)
    have := hf (j.Value - j.Final) (by omega) (by omega)
    simp only [sm, List.length_cons]
    split <;> omega

theorem fin_mean {l : List GJudged} (h : RL l) {f : Int → Int} (hf : Sm f) (m : Int) :
    (brn (((ct m l : Nat) : Int) == 0) (callD r_severity_zero (cw f_severity_zero [] []) fun (r7 : GRatio) => some ((AV.tup [.agg (dGRatio.enc r7), B false], []) : AV × Mem))
      (callD r_ratio_New (cw f_ratio_New [I (sm f m l), I ((ct m l : Nat) : Int)] []) fun (r8 : GRatio × Int) =>
        brn (r8.snd != 0) (callD r_severity_zero (cw f_severity_zero [] []) fun (r9 : GRatio) => some ((AV.tup [.agg (dGRatio.enc r9), B false], []) : AV × Mem))
        (some ((AV.tup [.agg (dGRatio.enc r8.fst), B true], []) : AV × Mem)))) = some ((AV.tup [.agg (dGRatio.enc (ofR (mnR f m l))), B (has m l)], []) : AV × Mem) := by
  obtain ⟨hl, hj⟩ := h
  have hb := sm_bd hf m l hj
  have hc := ct_le m l
  by_cases h0 : ct m l = 0
  · have e1 : mnR f m l = 0 := by unfold mnR; rw [if_pos h0]
    have e2 : has m l = false := by unfold has; rw [decide_eq_false (by omega)]
    rw [brn_t (by rw [h0]; rfl), callD_of c_zero, e1, e2, zero_of]
  · have e1 : mnR f m l = mkRat (sm f m l) (ct m l) := by unfold mnR; rw [if_neg h0]
    have e2 : has m l = true := by unfold has; rw [decide_eq_true h0]
    rw [brn_f (beq_false_of_ne (by omega)), callD_of (c_New (sm f m l) (ct m l) (by omega) (by omega) (by omega)), brn_f (by rfl), e1, e2]

theorem c_fn_Bias (d : Int) (h1 : -40 ≤ d) (h2 : d ≤ 40) : cw f_severity_Bias_1 [I d] [] = some (r_severity_Bias_1.enc (idF d)) := e_severity_Bias_1 d rfl

theorem c_mean_Bias {l : List GJudged} (h : RL l) (m : Int) : cw f_severity_mean [aJ l, I m, .fn f_severity_Bias_1 []] [] = some (r_severity_mean.enc (ofR (mnR idF m l), has m l)) := by
  have hl := h.1
  refine e_severity_mean_Bias l m ?_
  rw [callD_of (c_right h), brn_nt]
  refine range_ind l (fun i r => ∀ (s : Int) (c : Nat), s + sm idF m r = sm idF m l → c + ct m r = ct m l → (∀ j ∈ r, JOk j) → -20000 ≤ s → s ≤ 20000 → i ≤ 500 → -(40 * (i : Int)) ≤ s → s ≤ 40 * (i : Int) → c ≤ i → k_severity_mean_Bias_1 l m s (c : Nat) (i : Nat) = some (r_severity_mean.enc (ofR (mnR idF m l), has m l))) ?_ ?_ 0 0 (by omega) (by omega) h.2 (by omega) (by omega) (by omega) (by omega) (by omega) (by omega)
  · intro s c hs hc _ _ _ _ _ _ _
    refine t_severity_mean_Bias_1 l m s _ _ ?_
    have e1 : s = sm idF m l := by simpa [sm] using hs
    have e2 : c = ct m l := by simpa [ct] using hc
    rw [List.length_map, brn_dec, if_neg (by omega), e1, e2]
    exact fin_mean h sm_id m
  · intro i x r hi hx hr ih s c hs hc hj h1 h2 h3 h4 h5 h6
    refine t_severity_mean_Bias_1 l m s _ _ ?_
    have e1 : ((i : Int) + 1) = ((i + 1 : Nat) : Int) := by omega
    obtain ⟨j1, j2, j3, j4, j5, j6⟩ := hj x (by simp)
    have hj' : ∀ j ∈ r, JOk j := fun j q => hj j (by simp [q])
    rw [List.length_map, brn_dec, if_pos (by omega), chk_pos (by omega), Int.toNat_natCast, elemD_get hi, hx, w64_id (n := (i : Int) + 1) (by omega) (by omega), w64_id (n := x.Value - x.Final) (by omega) (by omega), e1]
    by_cases hm : x.Marker = m
    · have hb := sm_id (x.Value - x.Final) (by omega) (by omega)
      have hs' : s + (idF (x.Value - x.Final) + sm idF m r) = sm idF m l := by simpa [sm, hm] using hs
      have hc' : c + (1 + ct m r) = ct m l := by simpa [ct, hm] using hc
      rw [brn_t (by simpa using hm), callD_of (c_fn_Bias _ (by omega) (by omega)), w64_id (by omega) (by omega), w64_id (by omega) (by omega), show ((c : Int) + 1) = ((c + 1 : Nat) : Int) by omega]
      exact ih _ _ (by omega) (by omega) hj' (by omega) (by omega) (by omega) (by omega) (by omega) (by omega)
    · have hs' : s + sm idF m r = sm idF m l := by simpa [sm, hm] using hs
      have hc' : c + ct m r = ct m l := by simpa [ct, hm] using hc
      rw [brn_f (beq_false_of_ne hm)]
      exact ih _ _ hs' hc' hj' (by omega) (by omega) (by omega) (by omega) (by omega) (by omega)

theorem c_Bias {l : List GJudged} (h : RL l) (m : Int) : cw f_severity_Bias [aJ l, I m] [] = some (r_severity_Bias.enc (ofR (mnR idF m l), has m l)) := by
  refine e_severity_Bias l m ?_
  rw [callD_of (c_mean_Bias h m)]

theorem c_fn_Spread (d : Int) (h1 : -40 ≤ d) (h2 : d ≤ 40) : cw f_severity_Spread_1 [I d] [] = some (r_severity_Spread_1.enc (abF d)) := by
  refine e_severity_Spread_1 d ?_
  rw [w64_id (by omega) (by omega), show (0 : Int) - d = -d by omega]
  rfl

theorem c_mean_Spread {l : List GJudged} (h : RL l) (m : Int) : cw f_severity_mean [aJ l, I m, .fn f_severity_Spread_1 []] [] = some (r_severity_mean.enc (ofR (mnR abF m l), has m l)) := by
  have hl := h.1
  refine e_severity_mean_Spread l m ?_
  rw [callD_of (c_right h), brn_nt]
  refine range_ind l (fun i r => ∀ (s : Int) (c : Nat), s + sm abF m r = sm abF m l → c + ct m r = ct m l → (∀ j ∈ r, JOk j) → -20000 ≤ s → s ≤ 20000 → i ≤ 500 → -(40 * (i : Int)) ≤ s → s ≤ 40 * (i : Int) → c ≤ i → k_severity_mean_Spread_1 l m s (c : Nat) (i : Nat) = some (r_severity_mean.enc (ofR (mnR abF m l), has m l))) ?_ ?_ 0 0 (by omega) (by omega) h.2 (by omega) (by omega) (by omega) (by omega) (by omega) (by omega)
  · intro s c hs hc _ _ _ _ _ _ _
    refine t_severity_mean_Spread_1 l m s _ _ ?_
    have e1 : s = sm abF m l := by simpa [sm] using hs
    have e2 : c = ct m l := by simpa [ct] using hc
    rw [List.length_map, brn_dec, if_neg (by omega), e1, e2]
    exact fin_mean h sm_ab m
  · intro i x r hi hx hr ih s c hs hc hj h1 h2 h3 h4 h5 h6
    refine t_severity_mean_Spread_1 l m s _ _ ?_
    have e1 : ((i : Int) + 1) = ((i + 1 : Nat) : Int) := by omega
    obtain ⟨j1, j2, j3, j4, j5, j6⟩ := hj x (by simp)
    have hj' : ∀ j ∈ r, JOk j := fun j q => hj j (by simp [q])
    rw [List.length_map, brn_dec, if_pos (by omega), chk_pos (by omega), Int.toNat_natCast, elemD_get hi, hx, w64_id (n := (i : Int) + 1) (by omega) (by omega), w64_id (n := x.Value - x.Final) (by omega) (by omega), e1]
    by_cases hm : x.Marker = m
    · have hb := sm_ab (x.Value - x.Final) (by omega) (by omega)
      have hs' : s + (abF (x.Value - x.Final) + sm abF m r) = sm abF m l := by simpa [sm, hm] using hs
      have hc' : c + (1 + ct m r) = ct m l := by simpa [ct, hm] using hc
      rw [brn_t (by simpa using hm), callD_of (c_fn_Spread _ (by omega) (by omega)), w64_id (by omega) (by omega), w64_id (by omega) (by omega), show ((c : Int) + 1) = ((c + 1 : Nat) : Int) by omega]
      exact ih _ _ (by omega) (by omega) hj' (by omega) (by omega) (by omega) (by omega) (by omega) (by omega)
    · have hs' : s + sm abF m r = sm abF m l := by simpa [sm, hm] using hs
      have hc' : c + ct m r = ct m l := by simpa [ct, hm] using hc
      rw [brn_f (beq_false_of_ne hm)]
      exact ih _ _ hs' hc' hj' (by omega) (by omega) (by omega) (by omega) (by omega) (by omega)

theorem c_Spread {l : List GJudged} (h : RL l) (m : Int) : cw f_severity_Spread [aJ l, I m] [] = some (r_severity_Spread.enc (ofR (mnR abF m l), has m l)) := by
  refine e_severity_Spread l m ?_
  rw [callD_of (c_mean_Spread h m)]

theorem c_fn_Agreement (d : Int) (h1 : -40 ≤ d) (h2 : d ≤ 40) : cw f_severity_Agreement_1 [I d] [] = some (r_severity_Agreement_1.enc (agF d)) := by
  refine e_severity_Agreement_1 d ?_
  by_cases h : d = 0
  · subst h; rfl
  · rw [brn_f (beq_false_of_ne h)]; unfold agF; rw [if_neg h]

theorem c_mean_Agreement {l : List GJudged} (h : RL l) (m : Int) : cw f_severity_mean [aJ l, I m, .fn f_severity_Agreement_1 []] [] = some (r_severity_mean.enc (ofR (mnR agF m l), has m l)) := by
  have hl := h.1
  refine e_severity_mean_Agreement l m ?_
  rw [callD_of (c_right h), brn_nt]
  refine range_ind l (fun i r => ∀ (s : Int) (c : Nat), s + sm agF m r = sm agF m l → c + ct m r = ct m l → (∀ j ∈ r, JOk j) → -20000 ≤ s → s ≤ 20000 → i ≤ 500 → -(40 * (i : Int)) ≤ s → s ≤ 40 * (i : Int) → c ≤ i → k_severity_mean_Agreement_1 l m s (c : Nat) (i : Nat) = some (r_severity_mean.enc (ofR (mnR agF m l), has m l))) ?_ ?_ 0 0 (by omega) (by omega) h.2 (by omega) (by omega) (by omega) (by omega) (by omega) (by omega)
  · intro s c hs hc _ _ _ _ _ _ _
    refine t_severity_mean_Agreement_1 l m s _ _ ?_
    have e1 : s = sm agF m l := by simpa [sm] using hs
    have e2 : c = ct m l := by simpa [ct] using hc
    rw [List.length_map, brn_dec, if_neg (by omega), e1, e2]
    exact fin_mean h sm_ag m
  · intro i x r hi hx hr ih s c hs hc hj h1 h2 h3 h4 h5 h6
    refine t_severity_mean_Agreement_1 l m s _ _ ?_
    have e1 : ((i : Int) + 1) = ((i + 1 : Nat) : Int) := by omega
    obtain ⟨j1, j2, j3, j4, j5, j6⟩ := hj x (by simp)
    have hj' : ∀ j ∈ r, JOk j := fun j q => hj j (by simp [q])
    rw [List.length_map, brn_dec, if_pos (by omega), chk_pos (by omega), Int.toNat_natCast, elemD_get hi, hx, w64_id (n := (i : Int) + 1) (by omega) (by omega), w64_id (n := x.Value - x.Final) (by omega) (by omega), e1]
    by_cases hm : x.Marker = m
    · have hb := sm_ag (x.Value - x.Final) (by omega) (by omega)
      have hs' : s + (agF (x.Value - x.Final) + sm agF m r) = sm agF m l := by simpa [sm, hm] using hs
      have hc' : c + (1 + ct m r) = ct m l := by simpa [ct, hm] using hc
      rw [brn_t (by simpa using hm), callD_of (c_fn_Agreement _ (by omega) (by omega)), w64_id (by omega) (by omega), w64_id (by omega) (by omega), show ((c : Int) + 1) = ((c + 1 : Nat) : Int) by omega]
      exact ih _ _ (by omega) (by omega) hj' (by omega) (by omega) (by omega) (by omega) (by omega) (by omega)
    · have hs' : s + sm agF m r = sm agF m l := by simpa [sm, hm] using hs
      have hc' : c + ct m r = ct m l := by simpa [ct, hm] using hc
      rw [brn_f (beq_false_of_ne hm)]
      exact ih _ _ hs' hc' hj' (by omega) (by omega) (by omega) (by omega) (by omega) (by omega)

theorem c_Agreement {l : List GJudged} (h : RL l) (m : Int) : cw f_severity_Agreement [aJ l, I m] [] = some (r_severity_Agreement.enc (ofR (mnR agF m l), has m l)) := by
  refine e_severity_Agreement l m ?_
  rw [callD_of (c_mean_Agreement h m)]

theorem c_sane : cw f_law31_sane [] [] = some (r_law31_sane.enc true) := acall_le_callw 120 _ _ _ _ (by kernel_rfl)
end Go.Proofs.Ytohpjbokhcifbaa
