/- The reference's fractions on small values: valid, compared as core's Rat compares. -/
import Derived.Test.YtapkemilafogjaaRatio2
namespace Go.Proofs.Ytapkemilafogjaa
open Go.Ab Go.Pure

end Go.Proofs.Ytapkemilafogjaa
