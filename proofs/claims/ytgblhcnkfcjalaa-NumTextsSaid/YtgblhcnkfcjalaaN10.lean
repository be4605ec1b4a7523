/- The document's examples. -/
import Derived.Test.YtgblhcnkfcjalaaN9
set_option linter.unusedVariables false
set_option linter.unusedSimpArgs false
namespace Go.Abs
open Go Go.Proofs
theorem c41 (H : Heap) : ACalls Try.prog 16 [] H fun r H' => r = .bool true ∧ H' = H := ACalls.reckoned T.hm (n := 100000) rfl (by kernel_rfl) H
end Go.Abs
