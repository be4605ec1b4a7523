/- NumForms on arguments. -/
import Derived.Test.YtboekagofficpaaGreatNc
import Derived.Test.YtboekagofficpaaGreatA29
set_option linter.unusedVariables false
set_option linter.unusedSimpArgs false
namespace Go.Abs
open Go Go.Proofs
set_option maxRecDepth 20000
theorem args1 {P : Program} {H : Heap} {n : Nat} {t : TypeId} {xs : List Value} (h : GoodArgs P H n [t] xs) : ∃ v, xs = [v] ∧ GoodArg P H n t v := by
  match xs, h with
  | [v], ⟨h1, _⟩ => exact ⟨v, rfl, h1⟩
theorem args2 {P : Program} {H : Heap} {n : Nat} {t u : TypeId} {xs : List Value} (h : GoodArgs P H n [t, u] xs) : ∃ v w, xs = [v, w] ∧ GoodArg P H n t v ∧ GoodArg P H n u w := by
  match xs, h with
  | [v, w], ⟨h1, h2, _⟩ => exact ⟨v, w, rfl, h1, h2⟩
theorem args3 {P : Program} {H : Heap} {n : Nat} {t u s : TypeId} {xs : List Value} (h : GoodArgs P H n [t, u, s] xs) : ∃ v w x, xs = [v, w, x] ∧ GoodArg P H n t v ∧ GoodArg P H n u w ∧ GoodArg P H n s x := by
  match xs, h with
  | [v, w, x], ⟨h1, h2, h3, _⟩ => exact ⟨v, w, x, rfl, h1, h2, h3⟩
end Go.Abs
