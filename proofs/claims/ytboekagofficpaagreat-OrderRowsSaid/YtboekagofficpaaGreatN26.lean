/- Dividing limbs by limbs. -/
import Derived.Test.YtboekagofficpaaGreatX1
import Derived.Test.YtboekagofficpaaGreatZb
set_option linter.unusedVariables false
set_option linter.unusedSimpArgs false
namespace Go.Abs
open Go Go.Proofs
set_option maxRecDepth 100000
set_option maxHeartbeats 40000000
set_option linter.unusedSimpArgs false

def pl147_4 : Plan := ⟨[0, 1, 3, 4, 6, 7], [(2, [], []), (5, [], [8, 9, 10])]⟩
theorem shl32_n {n : Nat} {x : Int} (hx : 0 ≤ x * 2 ^ n ∧ x * 2 ^ n < 4294967296) (hn : n < 32) : x * 2 ^ (min n 32) % 4294967296 = x * 2 ^ n := by
  rw [show min n 32 = n by omega]; omega


end Go.Abs
