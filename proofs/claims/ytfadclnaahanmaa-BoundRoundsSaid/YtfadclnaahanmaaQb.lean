/- Joined: Q2, Q4. -/
import Derived.Test.YtfadclnaahanmaaQ1
import Derived.Test.YtfadclnaahanmaaN27
import Derived.Test.YtfadclnaahanmaaZb
/- The document's twice, divmod: calls of values. -/
set_option linter.unusedVariables false
set_option linter.unusedSimpArgs false
namespace Go.Abs
open Go Go.Proofs
set_option maxRecDepth 100000
set_option maxHeartbeats 4000000

end Go.Abs

/- The document's quotients, and what divides both: calls of values. -/
set_option linter.unusedVariables false
set_option linter.unusedSimpArgs false
namespace Go.Abs
open Go Go.Proofs
set_option maxRecDepth 100000
set_option maxHeartbeats 40000000

def pl43_6 : Plan := ⟨[0, 1, 2, 3, 4, 5, 7, 8, 9], [(6, [8], []), (10, [], []), (11, [], []), (12, [], [13])]⟩
def pl47_1 : Plan := ⟨[0, 3], [(1, [3], [2]), (4, [], [5, 6, 7])]⟩
end Go.Abs
