/- Linear problems: what proves an answer, plainly. -/
import Derived.Test.YtfadclnaahanmaaGreatKb
import Derived.Test.YtfadclnaahanmaaGreatL21
set_option linter.unusedVariables false
set_option linter.unusedSimpArgs false
namespace Go.Abs
open Go Go.Proofs
set_option maxRecDepth 100000
set_option maxHeartbeats 4000000
theorem same_ev {a b : List RQ} (h : sameV a b = true) : a.length = b.length ∧ ∀ i, i < a.length → ev a i = ev b i := by
  unfold sameV at h
  rw [Bool.and_eq_true, decide_eq_true_eq, List.all_eq_true] at h
  exact ⟨h.1, fun i hi => of_decide_eq_true (h.2 i (List.mem_range.2 hi))⟩
section
variable {n k k' : Int} {A : List (List RQ)} {B C X Y Z X' Y' Z' x : List RQ} {v v' : RQ}
theorem within_iff : withinV n A B C x = true ↔ okLp n A B C = true ∧ (x.length : Int) = n ∧ belowV A x B = true := by
  unfold withinV
  rw [Bool.and_eq_true, Bool.and_eq_true, decide_eq_true_eq, and_assoc]
end
end Go.Abs
