/- The dice: the numbers that they give out. -/
import Derived.Test.YtohpjbokhcifbaaAll
import Derived.Test.YtohpjbokhcifbaaAbTop
namespace Go.Proofs.Ytohpjbokhcifbaa
open Go.Ab

/-- dice as the statements use them: a short list, a place in it -/
def DOk (d : GmarkDice) : Prop := 0 ≤ d.At ∧ d.L.length ≤ 600

noncomputable abbrev mD (d : GmarkDice) : Mem := [(1000, ⟨2, ty_mark_Dice, [dGmarkDice.enc d], true⟩)]

theorem tmod_lt {a n : Int} (hn : 0 < n) : -n < a.tmod n ∧ a.tmod n < n := by
  have h1 := Int.tmod_lt_of_pos a hn
  refine ⟨?_, h1⟩
  have h2 := Int.tmod_lt_of_pos (-a) hn
  rw [Int.neg_tmod] at h2
  omega

theorem c_Light (t : List Int) : cw f_mark_Light [.sl 1 (List.map dI_i64.enc t)] [] = some (r_mark_Light.enc (decide ((t.length : Int) ≤ 600))) :=
  e_mark_Light t (by rw [List.length_map])

theorem c_Roll (t : List Int) : cw f_mark_Roll [.sl 1 (List.map dI_i64.enc t)] [] = some (r_mark_Roll.enc ⟨t, 0⟩) := e_mark_Roll t rfl

theorem c_Next (d : GmarkDice) (n : Int) (hd : DOk d) (hn : n ≤ 4611686018427387904) :
    ∃ (r : Int) (d' : GmarkDice), cw f_mark_Dice_Next [.loc 1000 2 0 0, I n] (mD d) = some (r_mark_Dice_Next.enc (r, d')) ∧ 0 ≤ r ∧ (r < n ∨ r = 0) ∧ DOk d' := by
  by_cases h1 : (d.L.length : Int) ≤ d.At
  · refine ⟨0, d, e_mark_Dice_Next d n ?_, by omega, .inr rfl, hd⟩
    rw [List.length_map, brn_dec, if_pos h1]
  by_cases h2 : n < 1
  · refine ⟨0, d, e_mark_Dice_Next d n ?_, by omega, .inr rfl, hd⟩
    rw [List.length_map, brn_dec, if_neg h1, brn_dec, if_pos h2]
  obtain ⟨ha, hl⟩ := hd
  have hlt : d.At.toNat < d.L.length := by omega
  have hb := tmod_lt (a := d.L[d.At.toNat]) (n := n) (by omega)
  have hd' : DOk ⟨d.L, d.At + 1⟩ := ⟨by show 0 ≤ d.At + 1; omega, hl⟩
  have hw : w64 (d.At + 1) = d.At + 1 := w64_id (by omega) (by omega)
  by_cases h3 : (d.L[d.At.toNat]).tmod n < 0
  · refine ⟨(d.L[d.At.toNat]).tmod n + n, ⟨d.L, d.At + 1⟩, e_mark_Dice_Next d n ?_, by omega, .inl (by omega), hd'⟩
    rw [List.length_map, brn_dec, if_neg h1, brn_dec, if_neg h2, chk_pos ha, elemD_get hlt, chk_pos (by omega), brn_dec, if_pos h3, hw, w64_id (by omega) (by omega)]
  · refine ⟨(d.L[d.At.toNat]).tmod n, ⟨d.L, d.At + 1⟩, e_mark_Dice_Next d n ?_, by omega, .inl (by omega), hd'⟩
    rw [List.length_map, brn_dec, if_neg h1, brn_dec, if_neg h2, chk_pos ha, elemD_get hlt, chk_pos (by omega), brn_dec, if_neg h3, hw]

end Go.Proofs.Ytohpjbokhcifbaa
