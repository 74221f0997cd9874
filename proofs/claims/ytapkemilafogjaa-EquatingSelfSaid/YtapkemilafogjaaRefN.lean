/- New fractions and sums, of the reference. -/
import Derived.Test.YtapkemilafogjaaRatio3
import Derived.Test.YtapkemilafogjaaRef1
namespace Go.Proofs.Ytapkemilafogjaa
open Go.Ab Go.Pure
set_option linter.unusedVariables false

theorem add_mk (a b : Rat) : mkRat (a.num * (b.den : Int) + b.num * (a.den : Int)) (a.den * b.den) = a + b := by
  rw [Rat.mkRat_eq_div]
  have ha : a = (a.num : Rat) / (a.den : Rat) := by rw [← Rat.mkRat_eq_div, Rat.mkRat_self]
  have hb : b = (b.num : Rat) / (b.den : Rat) := by rw [← Rat.mkRat_eq_div, Rat.mkRat_self]
  have da : (a.den : Rat) ≠ 0 := by
    intro hc
    have : ((a.den : Int) : Rat) = ((0 : Int) : Rat) := hc
    have := Rat.intCast_inj.1 this
    have := a.den_pos; omega
  have db : (b.den : Rat) ≠ 0 := by
    intro hc
    have : ((b.den : Int) : Rat) = ((0 : Int) : Rat) := hc
    have := Rat.intCast_inj.1 this
    have := b.den_pos; omega
  have e1 : ((a.num * (b.den : Int) + b.num * (a.den : Int) : Int) : Rat) = (a.num : Rat) * (b.den : Rat) + (b.num : Rat) * (a.den : Rat) := by
    rw [Rat.intCast_add, Rat.intCast_mul, Rat.intCast_mul]; rfl
  have e2 : ((a.den * b.den : Nat) : Rat) = (a.den : Rat) * (b.den : Rat) := Rat.natCast_mul _ _
  rw [e1, e2]
  generalize hA : (a.num : Rat) = A at *
  generalize hB : (b.num : Rat) = B at *
  generalize hC : (a.den : Rat) = C at *
  generalize hD : (b.den : Rat) = D at *
  rw [ha, hb]
  grind

end Go.Proofs.Ytapkemilafogjaa
