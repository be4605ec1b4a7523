/- Linear problems: what proves an answer, plainly. -/
import Derived.Test.YtfadclnaahanmaaKb
import Derived.Test.YtfadclnaahanmaaL21
set_option linter.unusedVariables false
set_option linter.unusedSimpArgs false
namespace Go.Abs
open Go Go.Proofs
set_option maxRecDepth 100000
set_option maxHeartbeats 4000000
theorem same_ev {a b : List RQ} (h : sameV a b = true) : a.length = b.length ∧ ∀ i, i < a.length → ev a i = ev b i := by
  unfold sameV at h
  rw [Bool.and_eq_true, decide_eq_true_eq, List.all_eq_true] at h
  exact ⟨h.1, fun i hi => of_decide_eq_true (h.2 i (List.mem_range.2 hi))⟩
section
variable {n k k' : Int} {A : List (List RQ)} {B C X Y Z X' Y' Z' x : List RQ} {v v' : RQ}
theorem within_iff : withinV n A B C x = true ↔ okLp n A B C = true ∧ (x.length : Int) = n ∧ belowV A x B = true := by
  unfold withinV
  rw [Bool.and_eq_true, Bool.and_eq_true, decide_eq_true_eq, and_assoc]
theorem opt_iff : optV n A B C v X Y Z = true ↔ okS Y A = true ∧ withinV n A B C X = true ∧ Z.length = 0 ∧ sameV (leftV Y A n.toNat) C = true ∧ dotV C X = vq v ∧ dotV Y B = vq v := by
  unfold optV
  simp only [Bool.and_eq_true, decide_eq_true_eq, and_assoc]
theorem holds_iff : holdsV n A B C k v X Y Z = true ↔ okLp n A B C = true ∧ ((k = 1 ∧ optV n A B C v X Y Z = true) ∨ (k = 2 ∧ infV n A B v X Y Z = true) ∨ (k = 3 ∧ unbV n A B C v X Y Z = true)) := by
  unfold holdsV
  rw [Bool.and_eq_true]
  refine and_congr_right fun _ => ?_
  by_cases h1 : k = 1
  · subst h1; simp
  by_cases h2 : k = 2
  · subst h2; simp
  by_cases h3 : k = 3
  · subst h3; simp
  simp [h1, h2, h3]
end
end Go.Abs
