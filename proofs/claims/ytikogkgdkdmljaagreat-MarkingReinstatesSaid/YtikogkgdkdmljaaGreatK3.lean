/- What the functions compute, between two cut points: printed by a program, checked by the kernel. -/
import Derived.Test.YtikogkgdkdmljaaGreatXAnn
set_option linter.unusedSimpArgs false
set_option linter.unusedVariables false
noncomputable section
namespace Go.Proofs.YtikogkgdkdmljaaGreat
open Go.Ab
set_option maxRecDepth 100000
variable {y:AV×Mem}
set_option maxRecDepth 100000
variable {y:AV×Mem}
set_option maxRecDepth 100000
variable {y:AV×Mem}
end Go.Proofs.YtikogkgdkdmljaaGreat
end
