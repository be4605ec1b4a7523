/- num.form: calls of values. -/
import Derived.Test.YthiaciajkjdcnaaY3
import Derived.Test.YthiaciajkjdcnaaY4
set_option linter.unusedVariables false
set_option linter.unusedSimpArgs false
namespace Go.Abs
open Go Go.Proofs
set_option maxRecDepth 100000
set_option maxHeartbeats 4000000

/-- A number's digits, its sign off. -/
def dgs (l : List Int) : List Int := if l.headD 0 = 45 then l.drop 1 else l
/-- A number's text. -/
def okN (l : List Int) : Bool := decide (dgs l ≠ [] ∧ ¬ ((dgs l).headD 0 = 48 ∧ (1 < (dgs l).length ∨ l.headD 0 = 45)) ∧ ((dgs l).all fun x => decide (48 ≤ x ∧ x ≤ 57)) = true)
theorem dgs_len (l : List Int) : (dgs l).length ≤ l.length := by
  unfold dgs; split
  · rw [List.length_drop]; omega
  · exact Nat.le_refl _
theorem hd_getD (l : List Int) : l.headD 0 = l.getD 0 0 := by cases l <;> rfl
theorem pos_ne {l : List Int} (h : l ≠ []) : 0 < l.length := List.length_pos_iff.2 h


end Go.Abs
