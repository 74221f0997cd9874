/- Distributions: what the reference computes of them; those that the dice make. -/
import Derived.Test.YtapkemilafogjaaDist
namespace Go.Proofs.Ytapkemilafogjaa
open Go.Ab Go.Pure
set_option linter.unusedVariables false

/-! ## the dice -/

theorem c_Pick (d : GmarkDice) (l : List Int) (hd : DOk d) (hl : l ≠ []) (hl2 : l.length ≤ 1000) :
    ∃ (r : Int) (d' : GmarkDice), cw f_mark_Dice_Pick [.loc 1000 2 0 0, .sl 1 (List.map dI_i64.enc l)] (mD d) = some (r_mark_Dice_Pick.enc (r, d')) ∧ r ∈ l ∧ DOk d' := by
  obtain ⟨r, d', h, h0, h1, hd'⟩ := c_Next d l.length hd (by omega)
  have hpos : 0 < l.length := List.length_pos_iff.2 hl
  have hlt : r.toNat < l.length := by omega
  refine ⟨l[r.toNat], d', e_mark_Dice_Pick d l ?_, List.getElem_mem hlt, hd'⟩
  rw [List.length_map, callD_of h, chk_pos h0, elemD_get hlt]

theorem k_Distribution (e : Int) (he : e = 0 ∨ e = 1) : ∀ (k : Nat) (l : List Int) (d : GmarkDice), DOk d → l.length + k ≤ 100 → (∀ c ∈ l, e ≤ c ∧ c ≤ e + 5) →
    ∃ (m : List Int) (d' : GmarkDice), k_mark_Dice_Distribution_1 (List.map dI_i64.enc l) d e (k : Int) = some (r_mark_Dice_Distribution.enc (⟨m⟩, d')) ∧ DOk d' ∧ m.length = l.length + k ∧ ∀ c ∈ m, e ≤ c ∧ c ≤ e + 5
  | 0, l, d, hd, hk, hl => by
    refine ⟨l, d, t_mark_Dice_Distribution_1 _ _ _ _ ?_, hd, rfl, hl⟩
    rw [brn_dec, if_neg (by omega), chk_pos (by omega), List.take_length]
  | k + 1, l, d, hd, hk, hl => by
    obtain ⟨r, d1, h1, hr, hd1⟩ := c_Pick d [0, 1, 2, 5, 0] hd (by simp) (by simp)
    have hr' : 0 ≤ r ∧ r ≤ 5 := by
      simp only [List.mem_cons, List.not_mem_nil, or_false] at hr
      omega
    obtain ⟨m, d', h2, h3, h4, h5⟩ := k_Distribution e he k (l ++ [e + r]) d1 hd1 (by simp; omega) (by
      intro c hc
      rcases List.mem_append.1 hc with hc | hc
      · exact hl c hc
      · rw [List.mem_singleton.1 hc]; omega)
    refine ⟨m, d', t_mark_Dice_Distribution_1 _ _ _ _ ?_, h3, by rw [h4]; simp; omega, h5⟩
    have ek : w64 (((k + 1 : Nat) : Int) - 1) = (k : Int) := by rw [w64_id (by omega) (by omega)]; omega
    rw [brn_dec, if_pos (by omega), callD_of h1, chk_pos rfl, chk_pos (by rw [List.length_map]; omega), ek]
    show k_mark_Dice_Distribution_1 (List.map dI_i64.enc l ++ [dI_i64.enc (w64 (e + r))]) d1 e k = _
    rw [w64_id (by omega) (by omega), ← h2, List.map_append, List.map_cons, List.map_nil]

theorem c_Distribution (d : GmarkDice) (n : Int) (full : Bool) (hd : DOk d) (hn : 0 ≤ n) (hn2 : n ≤ 50) :
    ∃ (m : List Int) (d' : GmarkDice), cw f_mark_Dice_Distribution [.loc 1000 2 0 0, I n, B full] (mD d) = some (r_mark_Dice_Distribution.enc (⟨m⟩, d')) ∧ DOk d' ∧ 1 ≤ m.length ∧ (m.length : Int) ≤ n + 1 ∧ ∀ c ∈ m, (if full = true then 1 else 0) ≤ c ∧ c ≤ (if full = true then 1 else 0) + 5 := by
  have hw : w64 (n + 1) = n + 1 := w64_id (by omega) (by omega)
  obtain ⟨r, d1, h1, r0, r1, hd1⟩ := c_Next d (n + 1) hd (by omega)
  have e1 : w64 (1 + r) = (((1 + r).toNat : Nat) : Int) := by rw [w64_id (by omega) (by omega)]; omega
  cases full with
  | true =>
    obtain ⟨m, d', h2, h3, h4, h5⟩ := k_Distribution 1 (.inr rfl) (1 + r).toNat [] d1 hd1 (by simp; omega) (by simp)
    simp only [List.length_nil] at h4
    refine ⟨m, d', e_mark_Dice_Distribution d n true ?_, h3, by omega, by omega, h5⟩
    rw [brn_T, hw, callD_of h1]
    show k_mark_Dice_Distribution_1 [] d1 1 (w64 (1 + r)) = _
    rw [e1]; exact h2
  | false =>
    obtain ⟨m, d', h2, h3, h4, h5⟩ := k_Distribution 0 (.inl rfl) (1 + r).toNat [] d1 hd1 (by simp; omega) (by simp)
    simp only [List.length_nil] at h4
    refine ⟨m, d', e_mark_Dice_Distribution d n false ?_, h3, by omega, by omega, h5⟩
    rw [brn_F, hw, callD_of h1]
    show k_mark_Dice_Distribution_1 [] d1 0 (w64 (1 + r)) = _
    rw [e1]; exact h2
end Go.Proofs.Ytapkemilafogjaa
