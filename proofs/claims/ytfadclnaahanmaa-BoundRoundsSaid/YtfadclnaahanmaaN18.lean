/- The document's sums and differences of limbs. -/
import Derived.Test.YtfadclnaahanmaaNd
set_option linter.unusedVariables false
set_option linter.unusedSimpArgs false
namespace Go.Abs
open Go Go.Proofs
set_option maxRecDepth 100000
set_option maxHeartbeats 40000000
set_option linter.unusedSimpArgs false


end Go.Abs
