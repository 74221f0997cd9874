/- Kappa: what it computes, and the law on it. -/
import Derived.Test.YtohpjbokhcifbaaSev31
namespace Go.Proofs.Ytohpjbokhcifbaa
open Go.Ab Go.Pure Go.PureS
set_option linter.unusedVariables false

def kok (a b : List Int) : Bool := decide (chn a b ≠ a.length * a.length)
def kap (a b : List Int) : Rat := if chn a b = a.length * a.length then 0 else mkRat ((eqn a b : Int) * a.length - chn a b) (a.length * a.length - chn a b)
def Mk (a : List Int) : Prop := ∀ z ∈ a, 0 ≤ z ∧ z < 41
noncomputable abbrev aI (l : List Int) : AV := .sl 1 (List.map dI_i64.enc l)

theorem dot_bd (a b : List Int) (ha : a.length ≤ 500) (hb : b.length ≤ 500) (k : Nat) : 0 ≤ dot k a b ∧ dot k a b ≤ k * 250000 := by
  induction k with
  | zero => simp [dot]
  | succ k ih =>
    have h1 : a.count (k : Int) ≤ 500 := Nat.le_trans List.count_le_length ha
    have h2 : b.count (k : Int) ≤ 500 := Nat.le_trans List.count_le_length hb
    have h3 := Nat.mul_le_mul h1 h2
    simp only [dot]
    rw [← Int.natCast_mul]
    omega

theorem fin_kap {a b : List Int} (hab : a.length = b.length) (hn : a.length ≤ 500) :
    (brn (((chn a b : Nat) : Int) == w64 ((a.length : Int) * (a.length : Int))) (callD r_severity_zero (cw f_severity_zero [] []) fun (r25 : GRatio) => some ((AV.tup [.agg (dGRatio.enc r25), B false], []) : AV × Mem))
   (callD r_ratio_New (cw f_ratio_New [I (w64 (w64 ((eqn a b : Int) * (a.length : Int)) - (chn a b : Nat))), I (w64 (w64 ((a.length : Int) * (a.length : Int)) - (chn a b : Nat)))] []) fun (r26 : GRatio × Int) =>
    brn (r26.snd != 0) (callD r_severity_zero (cw f_severity_zero [] []) fun (r27 : GRatio) => some ((AV.tup [.agg (dGRatio.enc r27), B false], []) : AV × Mem))
    (some ((AV.tup [.agg (dGRatio.enc r26.fst), B true], []) : AV × Mem)))) = some ((AV.tup [.agg (dGRatio.enc (ofR (kap a b))), B (kok a b)], []) : AV × Mem) := by
  have h1 := chn_le a b
  have h2 := eqn_le a b
  rw [← hab] at h1
  have h3 : a.length * a.length ≤ 500 * 500 := Nat.mul_le_mul hn hn
  have h4 : eqn a b * a.length ≤ 500 * 500 := Nat.mul_le_mul (by omega) hn
  have c1 : ((a.length : Int) * (a.length : Int)) = ((a.length * a.length : Nat) : Int) := by rw [Int.natCast_mul]
  have c2 : ((eqn a b : Int) * (a.length : Int)) = ((eqn a b * a.length : Nat) : Int) := by rw [Int.natCast_mul]
  rw [c1, c2]
  unfold kap kok
  rw [c2]
  generalize a.length * a.length = N at *
  generalize eqn a b * a.length = E at *
  rw [w64_id (n := (N : Int)) (by omega) (by omega), w64_id (n := (E : Int)) (by omega) (by omega), w64_id (by omega) (by omega), w64_id (by omega) (by omega)]
  by_cases h : chn a b = N
  · rw [brn_t (by rw [h]; simp), callD_of c_zero, if_pos h, decide_eq_false (by omega), zero_of]
  · rw [brn_f (beq_false_of_ne (by omega)), if_neg h, decide_eq_true h, show ((N : Int) - (chn a b : Nat)) = ((N - chn a b : Nat) : Int) by omega,
      callD_of (c_New ((E : Int) - (chn a b : Nat)) (N - chn a b) (by omega) (by omega) (by omega)), brn_f (by rfl)]

theorem k2_kap {a b : List Int} (hab : a.length = b.length) (hn : a.length ≤ 500) (ha : Mk a) : ∀ (k j : Nat), j + k = 41 →
    k_severity_Kappa_2 a (List.map dI_i64.enc (cnts a)) (List.map dI_i64.enc (cnts b)) (eqn a b : Nat) (dot j a b) (j : Nat) = some (r_severity_Kappa.enc (ofR (kap a b), kok a b)) := by
  intro k
  induction k with
  | zero =>
    intro j hj
    have : j = 41 := by omega
    subst this
    refine t_severity_Kappa_2 a _ _ _ _ _ ?_
    rw [brn_dec, if_neg (by omega), List.length_map, dot_chn a b ha]
    exact fin_kap hab hn
  | succ k ih =>
    intro j hj
    refine t_severity_Kappa_2 a _ _ _ _ _ ?_
    have hl1 : j < (cnts a).length := by rw [cnts_len]; omega
    have hl2 : j < (cnts b).length := by rw [cnts_len]; omega
    have hd := dot_bd a b hn (by omega) j
    have h1 : a.count (j : Int) ≤ 500 := Nat.le_trans List.count_le_length hn
    have h2 : b.count (j : Int) ≤ 500 := Nat.le_trans List.count_le_length (by omega)
    have h3 := Nat.mul_le_mul h1 h2
    have h4 : ((a.count (j : Int) : Nat) : Int) * ((b.count (j : Int) : Nat) : Int) = ((a.count (j : Int) * b.count (j : Int) : Nat) : Int) := by rw [Int.natCast_mul]
    rw [brn_dec, if_pos (by omega), chk_pos (by omega), chk_pos (show ((j : Nat) : Int) < 41 by omega), Int.toNat_natCast, Nat.zero_add, elemD_get hl1, chk_pos (by omega), chk_pos (show ((j : Nat) : Int) < 41 by omega), elemD_get hl2, cnts_get, cnts_get, h4, w64_id (n := ((a.count (j : Int) * b.count (j : Int) : Nat) : Int)) (by omega) (by omega), w64_id (by omega) (by omega), w64_id (by omega) (by omega), ← h4]
    have := ih (j + 1) (by omega)
    simp only [dot] at this
    rw [show ((j : Int) + 1) = ((j + 1 : Nat) : Int) by omega]
    exact this

theorem k1_kap {a b : List Int} (hab : a.length = b.length) (hn : a.length ≤ 500) (ha : Mk a) (hb : Mk b) : ∀ (k i : Nat), i + k = a.length →
    k_severity_Kappa_1 a b (List.map dI_i64.enc (cnts (a.take i))) (List.map dI_i64.enc (cnts (b.take i))) (eqn (a.take i) (b.take i) : Nat) (i : Nat) = some (r_severity_Kappa.enc (ofR (kap a b), kok a b)) := by
  intro k
  induction k with
  | zero =>
    intro i hi
    refine t_severity_Kappa_1 a b _ _ _ _ ?_
    rw [List.length_map, brn_dec, if_neg (by omega), List.take_of_length_le (by omega), List.take_of_length_le (by omega)]
    exact k2_kap hab hn ha 41 0 rfl
  | succ k ih =>
    intro i hi
    have hi1 : i < a.length := by omega
    have hi2 : i < b.length := by omega
    have IH := ih (i + 1) (by omega)
    have hx := ha a[i] (List.getElem_mem hi1)
    have hy := hb b[i] (List.getElem_mem hi2)
    have t1 : a.take (i + 1) = a.take i ++ [a[i]] := List.take_succ_eq_append_getElem hi1
    have t2 : b.take (i + 1) = b.take i ++ [b[i]] := List.take_succ_eq_append_getElem hi2
    have l1 : (a.take i).length = i := by rw [List.length_take]; omega
    have l2 : (b.take i).length = i := by rw [List.length_take]; omega
    rw [t1, t2, cnts_snoc _ _ hx.1 hx.2, cnts_snoc _ _ hy.1 hy.2, eqn_snoc _ _ _ _ (by omega)] at IH
    have n1 : (a.take i).count a[i] ≤ i := Nat.le_trans List.count_le_length (by omega)
    have n2 : (b.take i).count b[i] ≤ i := Nat.le_trans List.count_le_length (by omega)
    have n3 : eqn (a.take i) (b.take i) ≤ i := Nat.le_trans (eqn_le _ _) (by omega)
    refine t_severity_Kappa_1 a b _ _ _ _ ?_
    generalize hA : a.take i = A at *
    generalize hB : b.take i = Bq at *
    have g1 : a[i].toNat < (cnts A).length := by rw [cnts_len]; omega
    have g2 : b[i].toNat < (cnts Bq).length := by rw [cnts_len]; omega
    rw [List.length_map, brn_dec, if_pos (by omega), chk_pos (by omega), Int.toNat_natCast, elemD_get hi1, callD_of (c_mark hx.1 (by omega)), brn_nt, chk_pos (by omega), elemD_get hi2, callD_of (c_mark hy.1 (by omega)), brn_nt,
      chk_pos (by omega), elemD_get hi1, chk_pos hx.1, chk_pos (show a[i] < 41 by omega), Nat.zero_add, elemD_get g1, chk_pos hx.1, chk_pos (show a[i] < 41 by omega), elemD_get g1,
      chk_pos (by omega), elemD_get hi2, chk_pos hy.1, chk_pos (show b[i] < 41 by omega), Nat.zero_add, elemD_get g2, chk_pos hy.1, chk_pos (show b[i] < 41 by omega), elemD_get g2,
      chk_pos (by omega), elemD_get hi1, chk_pos (by omega), elemD_get hi2, cnts_get, cnts_get, Int.toNat_of_nonneg hx.1, Int.toNat_of_nonneg hy.1,
      w64_id (n := ((A.count a[i] : Nat) : Int) + 1) (by omega) (by omega), w64_id (n := ((Bq.count b[i] : Nat) : Int) + 1) (by omega) (by omega), w64_id (n := ((eqn A Bq : Nat) : Int) + 1) (by omega) (by omega), w64_id (n := (i : Int) + 1) (by omega) (by omega)]
    rw [List.map_set, List.map_set] at IH
    by_cases h : a[i] = b[i]
    · rw [brn_t (by simpa using h)]
      rw [if_pos h] at IH
      exact IH
    · rw [brn_f (beq_false_of_ne h)]
      rw [if_neg h] at IH
      exact IH

theorem cnts_nil : List.map dI_i64.enc (cnts []) = [dI_i64.enc 0, dI_i64.enc 0, dI_i64.enc 0, dI_i64.enc 0, dI_i64.enc 0, dI_i64.enc 0, dI_i64.enc 0, dI_i64.enc 0, dI_i64.enc 0, dI_i64.enc 0, dI_i64.enc 0, dI_i64.enc 0, dI_i64.enc 0, dI_i64.enc 0, dI_i64.enc 0, dI_i64.enc 0, dI_i64.enc 0, dI_i64.enc 0, dI_i64.enc 0, dI_i64.enc 0, dI_i64.enc 0, dI_i64.enc 0, dI_i64.enc 0, dI_i64.enc 0, dI_i64.enc 0, dI_i64.enc 0, dI_i64.enc 0, dI_i64.enc 0, dI_i64.enc 0, dI_i64.enc 0, dI_i64.enc 0, dI_i64.enc 0, dI_i64.enc 0, dI_i64.enc 0, dI_i64.enc 0, dI_i64.enc 0, dI_i64.enc 0, dI_i64.enc 0, dI_i64.enc 0, dI_i64.enc 0, dI_i64.enc 0] := by kernel_rfl

theorem c_Kappa {a b : List Int} (hab : a.length = b.length) (hn : a.length ≤ 500) (ha : Mk a) (hb : Mk b) : cw f_severity_Kappa [aI a, aI b] [] = some (r_severity_Kappa.enc (ofR (kap a b), kok a b)) := by
  refine e_severity_Kappa a b ?_
  rw [List.length_map, List.length_map, brn_f (by rw [hab]; simp)]
  by_cases h0 : a.length = 0
  · have ea : a = [] := List.length_eq_zero_iff.1 h0
    have eb : b = [] := List.length_eq_zero_iff.1 (by omega)
    subst ea; subst eb
    rw [brn_t (by rfl), callD_of c_zero]
    have e1 : kap [] [] = 0 := rfl
    have e2 : kok [] [] = false := by kernel_rfl
    rw [e1, e2, zero_of]
  · rw [brn_f (beq_false_of_ne (by omega)), brn_dec, if_neg (by omega), ← cnts_nil]
    exact k1_kap hab hn ha hb a.length 0 (by omega)

theorem c_same (a b : List Int) (hn : a.length ≤ 500) : cw f_law31_same [aI a, aI b] [] = some (r_law31_same.enc (decide (a = b))) := by
  refine e_law31_same a b ?_
  rw [List.length_map, List.length_map]
  by_cases hab : a.length = b.length
  case neg =>
    rw [brn_t (by rw [bne_iff_ne]; omega), decide_eq_false (fun e => hab (by rw [e]))]
  rw [brn_f (by rw [hab]; simp)]
  have key : ∀ (k i : Nat), i + k = a.length → k_law31_same_1 a b (i : Nat) = some (r_law31_same.enc (decide (a.drop i = b.drop i))) := by
    intro k
    induction k with
    | zero =>
      intro i hi
      refine t_law31_same_1 a b _ ?_
      rw [List.length_map, brn_dec, if_neg (by omega), List.drop_eq_nil_of_le (by omega), List.drop_eq_nil_of_le (by omega), decide_eq_true rfl]
    | succ k ih =>
      intro i hi
      have hi1 : i < a.length := by omega
      have hi2 : i < b.length := by omega
      refine t_law31_same_1 a b _ ?_
      rw [List.length_map, brn_dec, if_pos (by omega), chk_pos (by omega), Int.toNat_natCast, elemD_get hi1, chk_pos (by omega), elemD_get hi2, w64_id (by omega) (by omega), show ((i : Int) + 1) = ((i + 1 : Nat) : Int) by omega, ih (i + 1) (by omega)]
      have d1 := List.drop_eq_getElem_cons hi1
      have d2 := List.drop_eq_getElem_cons hi2
      by_cases h : a[i] = b[i]
      · rw [brn_f (by rw [h]; simp)]
        have : decide (a.drop (i + 1) = b.drop (i + 1)) = decide (a.drop i = b.drop i) := by
          rw [decide_eq_decide, d1, d2, h, List.cons.injEq]; simp only [true_and]
        rw [this]
      · rw [brn_t (by simpa using h), decide_eq_false (fun e => h (by rw [d1, d2] at e; exact (List.cons.inj e).1))]
  exact key a.length 0 (by omega)

theorem kok_comm {a b : List Int} (h : a.length = b.length) : kok b a = kok a b := by unfold kok; rw [chn_comm b a, h]
theorem kap_comm {a b : List Int} (h : a.length = b.length) : kap b a = kap a b := by unfold kap; rw [chn_comm b a, eqn_comm b a, h]
theorem kok_map {f : Int → Int} (hf : ∀ x y, f x = f y → x = y) (a b : List Int) : kok (a.map f) (b.map f) = kok a b := by unfold kok; rw [chn_map hf, List.length_map]
theorem kap_map {f : Int → Int} (hf : ∀ x y, f x = f y → x = y) (a b : List Int) : kap (a.map f) (b.map f) = kap a b := by unfold kap; rw [chn_map hf, eqn_map hf, List.length_map]

theorem kap_laws {a b : List Int} (h : a.length = b.length) (hn : a.length ≤ 500) (hk : kok a b = true) : ¬ (1 < kap a b) ∧ (kap a b = 1 ↔ a = b) ∧ Bd 19 19 (kap a b) := by
  unfold kok at hk
  have hk := of_decide_eq_true hk
  have h1 := chn_le a b
  have h2 := eqn_le a b
  rw [← h] at h1
  have h3 : a.length * a.length ≤ 500 * 500 := Nat.mul_le_mul hn hn
  have h4 : eqn a b * a.length ≤ a.length * a.length := Nat.mul_le_mul h2 (Nat.le_refl _)
  have hf := eqn_full a b h
  have c2 : ((eqn a b : Int) * (a.length : Int)) = ((eqn a b * a.length : Nat) : Int) := by rw [Int.natCast_mul]
  have hfull : eqn a b * a.length = a.length * a.length ↔ eqn a b = a.length := by
    constructor
    · intro e
      by_cases h0 : a.length = 0
      · omega
      · exact Nat.eq_of_mul_eq_mul_right (by omega) e
    · intro e; rw [e]
  unfold kap
  rw [if_neg hk, c2]
  refine ⟨?_, ?_, ?_⟩
  · rw [one_lt_mk (by omega)]; omega
  · rw [mk_one (by omega), ← hf, ← hfull]; omega
  · exact bd_mk (by omega) (by show _ ≤ 524288; omega) (by show _ ≤ 524288; omega)

theorem law_Kappa (a b : List Int) (n : Int) (ha : ∀ x ∈ a, 0 ≤ x) (hb : ∀ x ∈ b, 0 ≤ x) (hn0 : 0 ≤ n) : cw f_law31_SeverityKappa [.sl 1 (List.map dI_u8.enc a), .sl 1 (List.map dI_u8.enc b), .v (.int .u8 n)] [] = some (r_law31_SeverityKappa.enc true) := by
  refine e_law31_SeverityKappa a b n ?_
  rw [List.length_map, List.length_map]
  by_cases hab : a.length = b.length
  case neg => rw [brn_t (by rw [bne_iff_ne]; omega), callD_of c_sane]
  rw [brn_f (by rw [hab]; simp), brn_dec]
  by_cases hl : 40 < (a.length : Int)
  · rw [if_pos hl, callD_of c_sane]
  rw [if_neg hl]
  have c0 := Int.tmod_nonneg 30 hn0
  have c1 := Int.tmod_lt_of_pos n (show (0 : Int) < 30 by omega)
  have key : ∀ (k i : Nat), i + k = a.length → k_law31_SeverityKappa_1 a b n (List.map dI_i64.enc ((a.take i).map (·.tmod 3))) (List.map dI_i64.enc ((b.take i).map (·.tmod 3))) (List.map dI_i64.enc (((a.take i).map (·.tmod 3)).map fun z => n.tmod 30 + 2 * z)) (List.map dI_i64.enc (((b.take i).map (·.tmod 3)).map fun z => n.tmod 30 + 2 * z)) (i : Nat) = some (r_law31_SeverityKappa.enc true) := by
    intro k
    induction k with
    | zero =>
      intro i hi
      rw [List.take_of_length_le (show a.length ≤ i by omega), List.take_of_length_le (show b.length ≤ i by omega)]
      have mX : ∀ z ∈ a.map (·.tmod 3), 0 ≤ z ∧ z < 3 := fun z hz => by
        obtain ⟨w, hw, rfl⟩ := List.mem_map.1 hz
        exact ⟨Int.tmod_nonneg 3 (ha w hw), Int.tmod_lt_of_pos w (by omega)⟩
      have mY : ∀ z ∈ b.map (·.tmod 3), 0 ≤ z ∧ z < 3 := fun z hz => by
        obtain ⟨w, hw, rfl⟩ := List.mem_map.1 hz
        exact ⟨Int.tmod_nonneg 3 (hb w hw), Int.tmod_lt_of_pos w (by omega)⟩
      have lX : (a.map (·.tmod 3)).length = a.length := List.length_map _
      have lY : (b.map (·.tmod 3)).length = b.length := List.length_map _
      refine t_law31_SeverityKappa_1 a b n _ _ _ _ _ ?_
      generalize a.map (·.tmod 3) = X at *
      generalize b.map (·.tmod 3) = Y at *
      generalize n.tmod 30 = c at *
      have lXY : X.length = Y.length := by omega
      have inj : ∀ x y : Int, c + 2 * x = c + 2 * y → x = y := fun x y h => by omega
      have mU : Mk (X.map fun z => c + 2 * z) := fun z hz => by
        obtain ⟨w, hw, rfl⟩ := List.mem_map.1 hz
        have := mX w hw
        show 0 ≤ c + 2 * w ∧ c + 2 * w < 41
        omega
      have mV : Mk (Y.map fun z => c + 2 * z) := fun z hz => by
        obtain ⟨w, hw, rfl⟩ := List.mem_map.1 hz
        have := mY w hw
        show 0 ≤ c + 2 * w ∧ c + 2 * w < 41
        omega
      have mX' : Mk X := fun z hz => by have := mX z hz; omega
      have mY' : Mk Y := fun z hz => by have := mY z hz; omega
      have k1 := c_Kappa lXY (by omega) mX' mY'
      have k2 := c_Kappa lXY.symm (by omega) mY' mX'
      have k3 := c_Kappa (show (X.map fun z => c + 2 * z).length = (Y.map fun z => c + 2 * z).length by rw [List.length_map, List.length_map]; exact lXY) (by rw [List.length_map]; omega) mU mV
      rw [kap_comm lXY, kok_comm lXY] at k2
      rw [kap_map inj, kok_map inj] at k3
      rw [List.length_map (f := dI_u8.enc), brn_dec, if_neg (by omega), chk_pos (by omega), chk_pos (by omega), List.take_length, List.take_length, callD_of k1, chk_pos (by omega), chk_pos (by omega), callD_of k2, chk_pos (by omega), chk_pos (by omega), List.take_length, List.take_length, callD_of k3,
        brn_t (by simp), brn_t (by simp), brn_t (by simp), brn_t (by simp)]
      cases hk : kok X Y with
      | false => rw [brn_nf, callD_of c_sane]
      | true =>
        obtain ⟨q1, q2, q3⟩ := kap_laws lXY (by omega) hk
        have b1 : Bd 0 0 (1 : Rat) := ⟨by decide, by decide⟩
        rw [brn_nt]
        show callD r_ref01_Less (cw f_ref01_Less [aR 1, aR (kap X Y)] []) _ = _
        rw [callD_of (c_rLess 1 (kap X Y) b1 q3 (by omega) (by omega) (by omega) (by omega)), decide_eq_false q1, brn_nf, chk_pos (by omega), chk_pos (by omega), callD_of (c_same X Y (by omega))]
        show brn (((ofR (kap X Y)).Num == (ofR 1).Num && ((ofR (kap X Y)).Den == (ofR 1).Den && true)) == decide (X = Y)) _ _ = _
        rw [eqR, brn_t (by rw [show decide (kap X Y = 1) = decide (X = Y) from decide_eq_decide.2 q2]; simp), callD_of c_sane]
    | succ k ih =>
      intro i hi
      have hi1 : i < a.length := by omega
      have hi2 : i < b.length := by omega
      have IH := ih (i + 1) (by omega)
      have t1 : a.take (i + 1) = a.take i ++ [a[i]] := List.take_succ_eq_append_getElem hi1
      have t2 : b.take (i + 1) = b.take i ++ [b[i]] := List.take_succ_eq_append_getElem hi2
      have l1 : ((a.take i).map (·.tmod 3)).length = i := by rw [List.length_map, List.length_take]; omega
      have l2 : ((b.take i).map (·.tmod 3)).length = i := by rw [List.length_map, List.length_take]; omega
      have x0 := Int.tmod_nonneg 3 (ha a[i] (List.getElem_mem hi1))
      have x1 := Int.tmod_lt_of_pos a[i] (show (0 : Int) < 3 by omega)
      have y0 := Int.tmod_nonneg 3 (hb b[i] (List.getElem_mem hi2))
      have y1 := Int.tmod_lt_of_pos b[i] (show (0 : Int) < 3 by omega)
      rw [t1, t2, List.map_append, List.map_append, List.map_append, List.map_append, List.map_append, List.map_append, List.map_append, List.map_append] at IH
      refine t_law31_SeverityKappa_1 a b n _ _ _ _ _ ?_
      generalize (a.take i).map (·.tmod 3) = X at *
      generalize (b.take i).map (·.tmod 3) = Y at *
      have gX : (List.map dI_i64.enc X ++ [dI_i64.enc (w64 (a[i].tmod 3))])[i]? = some (dI_i64.enc (w64 (a[i].tmod 3))) := by
        rw [List.getElem?_append_right (by rw [List.length_map]; omega), List.length_map, l1, Nat.sub_self]; rfl
      have gY : (List.map dI_i64.enc Y ++ [dI_i64.enc (w64 (b[i].tmod 3))])[i]? = some (dI_i64.enc (w64 (b[i].tmod 3))) := by
        rw [List.getElem?_append_right (by rw [List.length_map]; omega), List.length_map, l2, Nat.sub_self]; rfl
      rw [List.length_map (f := dI_u8.enc), brn_dec, if_pos (by omega), chk_pos (by omega), Int.toNat_natCast, elemD_get hi1, chk_pos (by omega), chk_pos rfl, chk_pos (by rw [List.length_map]; omega), chk_pos (by omega), elemD_get hi2, chk_pos (by omega), chk_pos rfl, chk_pos (by rw [List.length_map]; omega), chk_pos rfl, chk_pos rfl, chk_pos (by omega), chk_pos (by omega),
        chk_pos (by rw [List.length_append, List.length_map]; simp; omega), Nat.zero_add, elemD_at gX, chk_pos rfl, chk_pos (by rw [List.length_map, List.length_map]; omega), chk_pos (by omega), chk_pos (by omega), chk_pos (by rw [List.length_append, List.length_map]; simp; omega), elemD_at gY, chk_pos rfl, chk_pos (by rw [List.length_map, List.length_map]; omega), chk_pos rfl, chk_pos rfl,
        w64_id (n := a[i].tmod 3) (by omega) (by omega), w64_id (n := b[i].tmod 3) (by omega) (by omega), w64_id (n := n.tmod 30) (by omega) (by omega), w64_id (n := 2 * a[i].tmod 3) (by omega) (by omega), w64_id (n := 2 * b[i].tmod 3) (by omega) (by omega), w64_id (n := n.tmod 30 + 2 * a[i].tmod 3) (by omega) (by omega), w64_id (n := n.tmod 30 + 2 * b[i].tmod 3) (by omega) (by omega), w64_id (n := (i : Int) + 1) (by omega) (by omega)]
      exact IH
  exact key a.length 0 (by omega)

theorem u8_wf {n : Int} (h : (Lit.int .u8 n).wf = true) : 0 ≤ n := by
  simp only [Lit.wf, Bool.and_eq_true, decide_eq_true_eq] at h
  exact h.1

theorem u8_nn {w : World} {a : Option Addr} {len cap : Nat} {zs : List Int} (h : IsInts .u8 w a len cap zs) : ∀ x ∈ zs.take len, 0 ≤ x := by
  intro x hx
  have hx := List.mem_of_mem_take hx
  rcases h with ⟨_, _, _, rfl⟩ | ⟨_, _, _, _, _, _, hw⟩
  · simp at hx
  · exact u8_wf (hw x hx)
end Go.Proofs.Ytohpjbokhcifbaa
