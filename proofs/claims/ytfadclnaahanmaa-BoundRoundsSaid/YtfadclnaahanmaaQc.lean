/- Joined: Q3, Q5. -/
import Derived.Test.YtfadclnaahanmaaQb
import Derived.Test.YtfadclnaahanmaaN26
import Derived.Test.YtfadclnaahanmaaBg
import Derived.Test.YtfadclnaahanmaaA30
/- Quotients, and what divides both: calls of values. -/
set_option linter.unusedVariables false
set_option linter.unusedSimpArgs false
namespace Go.Abs
open Go Go.Proofs
set_option maxRecDepth 100000
set_option maxHeartbeats 40000000

def pl42_1 : Plan := ⟨[0, 2], [(1, [2], []), (3, [], [4, 5])]⟩
def pl42_8 : Plan := ⟨[0, 2, 5, 7, 9, 10], [(1, [7, 2], []), (3, [7], [4]), (6, [7], []), (8, [], []), (11, [], []), (12, [], []), (13, [], [14])]⟩
def pl42_10 : Plan := ⟨[0, 2, 5, 7, 9], [(1, [7, 2], []), (3, [7], [4]), (6, [7], []), (8, [], []), (10, [], []), (11, [], []), (12, [], [13])]⟩
def pl46_1 : Plan := ⟨[0, 3, 6, 7], [(1, [3], []), (2, [3], []), (4, [], []), (5, [], []), (8, [], []), (9, [], [])]⟩
def pl46_4 : Plan := ⟨[0, 1], [(2, [1], []), (3, [], [])]⟩
end Go.Abs

/- What laws on numbers call beside: how many limbs, errors, nought. -/
set_option linter.unusedVariables false
set_option linter.unusedSimpArgs false
namespace Go.Abs
open Go Go.Proofs
set_option maxRecDepth 100000
set_option maxHeartbeats 4000000

variable {P : Program} {H : Heap} {K : Value → Heap → Prop} {g : FuncId}
theorem p44t {a b : Int} (h1 : ln a ≤ 2 ^ 40) (e : a = b) : PC Try.prog 23 [Zn a, Zn b] (.bool true) := by
  subst e
  exact (p44 (lb_z h1) (lb_z h1)).ok (by simp)
theorem sg_zero : sg 0 = 0 := rfl
attribute [go_sem] sg_zero
end Go.Abs
