/- Small fractions and curves that the dice make. -/
import Derived.Test.YtapkemilafogjaaRatio2
import Derived.Test.YtapkemilafogjaaPureJ
import Derived.Test.YtapkemilafogjaaDice0
namespace Go.Proofs.Ytapkemilafogjaa
open Go.Ab Go.Pure
set_option linter.unusedVariables false

/-- a point as the program holds it -/
def ofP (p : Pt) : GPoint := ⟨ofR p.1, ofR p.2⟩

def ofI (p : Int × Int) : Pt := ((p.1 : Rat), (p.2 : Rat))

theorem ofR_int (x : Int) : ofR (x : Rat) = ⟨x, 1⟩ := rfl

def IAsc (l : List (Int × Int)) : Prop := l.Pairwise fun p q => p.1 < q.1 ∧ p.2 < q.2

theorem asc_of {l : List (Int × Int)} (h : IAsc l) : Asc (l.map ofI) := by
  unfold Asc
  rw [List.pairwise_map, List.pairwise_iff_getElem]
  intro i j hi hj hij
  have hpq := List.pairwise_iff_getElem.1 h i j hi hj hij
  exact ⟨Rat.intCast_lt_intCast.2 hpq.1, Rat.intCast_lt_intCast.2 hpq.2⟩

theorem bd_int {x : Int} {n : Nat} (h : x.natAbs ≤ 2 ^ n) : Bd n 0 (x : Rat) := ⟨by rw [Rat.num_intCast]; exact h, by rw [Rat.den_intCast]; exact Nat.le_refl 1⟩

noncomputable abbrev encL (l : List (Int × Int)) : List (List AV) := List.map dGPoint.enc ((l.map ofI).map ofP)

end Go.Proofs.Ytapkemilafogjaa
