/- The document's: twice, and one more. -/
import Derived.Test.YtfadclnaahanmaaX1
set_option linter.unusedVariables false
set_option linter.unusedSimpArgs false
namespace Go.Abs
open Go Go.Proofs
set_option maxRecDepth 100000
set_option maxHeartbeats 40000000

def twL : List Int → Int → List Int
  | [], c => [c]
  | x :: l, c => (x * 2 % 4294967296 + c) :: twL l (x / 2147483648)
end Go.Abs
