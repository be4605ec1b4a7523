/- Dividing limbs by limbs. -/
import Derived.Test.YtfadclnaahanmaaX1
import Derived.Test.YtfadclnaahanmaaZb
set_option linter.unusedVariables false
set_option linter.unusedSimpArgs false
namespace Go.Abs
open Go Go.Proofs
set_option maxRecDepth 100000
set_option maxHeartbeats 40000000
set_option linter.unusedSimpArgs false

def pl147_4 : Plan := ⟨[0, 1, 3, 4, 6, 7], [(2, [], []), (5, [], [8, 9, 10])]⟩
end Go.Abs
