/- What is known of arguments. Printed. -/
import Derived.Test.YtkhhmjikohonfaaGP
namespace Go.Proofs.Ytkhhmjikohonfaa.F

end Go.Proofs.Ytkhhmjikohonfaa.F
