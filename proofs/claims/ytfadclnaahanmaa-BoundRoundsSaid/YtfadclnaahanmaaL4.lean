/- NumForms on arguments. -/
import Derived.Test.YtfadclnaahanmaaNc
import Derived.Test.YtfadclnaahanmaaA29
set_option linter.unusedVariables false
set_option linter.unusedSimpArgs false
namespace Go.Abs
open Go Go.Proofs
set_option maxRecDepth 20000
end Go.Abs
