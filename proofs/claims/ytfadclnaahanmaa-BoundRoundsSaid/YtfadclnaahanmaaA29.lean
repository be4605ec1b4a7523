/- What arguments are. -/
import Derived.Test.YtfadclnaahanmaaT
set_option linter.unusedVariables false
set_option linter.unusedSimpArgs false
namespace Go.Abs
set_option maxRecDepth 20000
open Go Go.Proofs

theorem Good.ofInt {P : Program} {t : TypeId} {k : IntKind} {H : Heap} {n : Nat} {cs : List Value} (hu : P.underlying t = some (.int k)) (h : Good P H (n + 1) t cs) : ∃ m, cs = [.int k m] ∧ (Lit.int k m).wf = true := by
  unfold Good at h
  rw [hu] at h
  exact h
theorem GoodArg.ofInt {P : Program} {t : TypeId} {k : IntKind} {H : Heap} {n : Nat} {v : Value} (hu : P.underlying t = some (.int k)) (h : GoodArg P H (n + 1) t v) : ∃ m, v = .int k m ∧ (Lit.int k m).wf = true := by
  unfold GoodArg at h
  rw [hu] at h
  obtain ⟨m, h1, h2⟩ := Good.ofInt hu h
  injection h1 with h1
  exact ⟨m, h1, h2⟩

end Go.Abs
