/- Joined: N23, N24. -/
import Derived.Test.YtfadclnaahanmaaNd
import Derived.Test.YtfadclnaahanmaaZb
/- By one limb. -/
set_option linter.unusedVariables false
set_option linter.unusedSimpArgs false
namespace Go.Abs
open Go Go.Proofs
set_option maxRecDepth 100000
set_option maxHeartbeats 40000000
set_option linter.unusedSimpArgs false

end Go.Abs

/- Shifts. -/
set_option linter.unusedVariables false
set_option linter.unusedSimpArgs false
namespace Go.Abs
open Go Go.Proofs
set_option maxRecDepth 100000
set_option maxHeartbeats 40000000
set_option linter.unusedSimpArgs false

end Go.Abs
