/- The document's example of order, lowered. -/
import Derived.Test.YtboekagofficpaaGreatX10
import Derived.Test.YtboekagofficpaaGreatO1
set_option linter.unusedVariables false
set_option linter.unusedSimpArgs false
namespace Go.Abs
open Go Go.Proofs
set_option maxRecDepth 100000
def lwA : RW := ⟨[⟨[], 0⟩, ⟨[], 1⟩], [], [⟨0, 0, 0, [], [], [true]⟩, ⟨0, 1, 0, [], [], [false]⟩], []⟩
theorem p300 : PC Tryz.prog 21 [progV] (.tuple ⟨[Wv lwA, .int .i64 0]⟩) :=
  PC.reck T.hm (n := 100000) (K := 4) pn_prog (by decide) (.tuple (.cons pu_W (.cons (.ground rfl) .nil))) (by kernel_rfl)
end Go.Abs
