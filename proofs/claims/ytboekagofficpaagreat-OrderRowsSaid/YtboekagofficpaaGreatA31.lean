/- What frozen arguments are: quotients, rows, tables. -/
import Derived.Test.YtboekagofficpaaGreatA30
import Derived.Test.YtboekagofficpaaGreatVa
set_option linter.unusedVariables false
set_option linter.unusedSimpArgs false
namespace Go.Abs
open Go Go.Proofs
set_option maxRecDepth 20000
variable {P : Program} {n : Nat} {t : TypeId} {p : Value} {ps : List Value}

def LimQ (a : RQ) : Prop := Lim a.p.l ∧ Lim a.q.l
theorem FArg.slice {e : TypeId} (h : FArg P n t p) (hu : P.underlying t = some (.slice e)) : FGood P n t [p] := by
  unfold FArg at h
  simp only [hu] at h
  exact h
end Go.Abs
