/- How arguments open. Printed. -/
import Derived.Test.YtkhhmjikohonfaaKKG
import Derived.Test.YtkhhmjikohonfaaGQ
import Derived.Test.YtkhhmjikohonfaaGW5
namespace Go.Proofs.Ytkhhmjikohonfaa.K
open Go Go.RowKit F
set_option maxRecDepth 100000
set_option maxHeartbeats 4000000
set_option linter.unusedVariables false
set_option linter.unusedSimpArgs false

end Go.Proofs.Ytkhhmjikohonfaa.K
