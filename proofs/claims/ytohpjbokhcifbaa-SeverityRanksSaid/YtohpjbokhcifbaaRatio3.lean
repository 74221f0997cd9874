/- Fractions: new ones, and the conditions of each step in one word. -/
import Derived.Test.YtohpjbokhcifbaaRatio2
namespace Go.Proofs.Ytohpjbokhcifbaa
open Go.Ab Go.Pure
set_option linter.unusedVariables false

/-- sizes of a quotient of whole numbers -/
theorem bd_mk {N : Int} {D n d : Nat} (h0 : 0 < D) (h1 : N.natAbs ≤ 2 ^ n) (h2 : D ≤ 2 ^ d) : Bd n d (mkRat N D) := by
  have hne : D ≠ 0 := by omega
  constructor
  · rw [Rat.num_mkRat, if_neg hne]
    exact Nat.le_trans (natAbs_ediv_le _ _) h1
  · rw [Rat.den_mkRat, if_neg hne]
    exact Nat.le_trans (Nat.div_le_self _ _) h2

theorem bd_eq {r : Rat} {N : Int} {D n d : Nat} (h : r * (D : Rat) = (N : Rat)) (h0 : 0 < D) (h1 : N.natAbs ≤ 2 ^ n) (h2 : D ≤ 2 ^ d) : Bd n d r := by
  have hD : (D : Rat) ≠ 0 := by
    intro hc
    have : ((D : Int) : Rat) = ((0 : Int) : Rat) := hc
    have := Rat.intCast_inj.1 this
    omega
  have : r = mkRat N D := by
    rw [Rat.mkRat_eq_div, ← h]
    grind
  rw [this]
  exact bd_mk h0 h1 h2

def AddOk (a b : Rat) : Prop := ∃ n d n' d' : Nat, Bd n d a ∧ Bd n' d' b ∧ n + d' + 1 ≤ 60 ∧ n' + d + 1 ≤ 60 ∧ d + d' ≤ 60
def MulOk (a b : Rat) : Prop := ∃ n d n' d' : Nat, Bd n d a ∧ Bd n' d' b ∧ n + n' ≤ 60 ∧ d + d' ≤ 60
def DivOk (a b : Rat) : Prop := b ≠ 0 ∧ ∃ n d n' d' : Nat, Bd n d a ∧ Bd n' d' b ∧ n + d' ≤ 60 ∧ d + n' ≤ 60
def VOk (a : Rat) : Prop := Bd 60 60 a

theorem AddOk.mk {a b : Rat} {n d n' d' : Nat} (ha : Bd n d a) (hb : Bd n' d' b) (h1 : n + d' + 1 ≤ 60) (h2 : n' + d + 1 ≤ 60) (h3 : d + d' ≤ 60) : AddOk a b := ⟨n, d, n', d', ha, hb, h1, h2, h3⟩
theorem MulOk.mk {a b : Rat} {n d n' d' : Nat} (ha : Bd n d a) (hb : Bd n' d' b) (h1 : n + n' ≤ 60) (h3 : d + d' ≤ 60) : MulOk a b := ⟨n, d, n', d', ha, hb, h1, h3⟩
theorem DivOk.mk {a b : Rat} {n d n' d' : Nat} (h0 : b ≠ 0) (ha : Bd n d a) (hb : Bd n' d' b) (h1 : n + d' ≤ 60) (h3 : d + n' ≤ 60) : DivOk a b := ⟨h0, n, d, n', d', ha, hb, h1, h3⟩
theorem VOk.mk {a : Rat} {n d : Nat} (ha : Bd n d a) (h1 : n ≤ 60) (h2 : d ≤ 60) : VOk a := ha.mono h1 h2

theorem g_Valid {a : Rat} (h : VOk a) : cw f_ratio_Valid [aR a] [] = some (r_ratio_Valid.enc true) := c_Valid a h (by omega) (by omega)
end Go.Proofs.Ytohpjbokhcifbaa
