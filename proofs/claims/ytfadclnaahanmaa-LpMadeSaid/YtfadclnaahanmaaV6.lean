/- What laws on quotients call beside. -/
import Derived.Test.YtfadclnaahanmaaV5
set_option linter.unusedVariables false
set_option linter.unusedSimpArgs false
namespace Go.Abs
open Go Go.Proofs
set_option maxRecDepth 100000
set_option maxHeartbeats 4000000
theorem rows1_4 {z a b c d : Value} : rFill 4 z 1 [(0, .agg ⟨[a, b, c, d]⟩)] = some [a, b, c, d] := rFill1 rfl
theorem rows2_4 {z a b c d a1 b1 c1 d1 : Value} : rFill 4 z 2 [(0, .agg ⟨[a, b, c, d]⟩), (1, .agg ⟨[a1, b1, c1, d1]⟩)] = some [a, b, c, d, a1, b1, c1, d1] := rFill2 rfl rfl
attribute [go_sem] rows1_4 rows2_4
def gq (a : RQ) : Bool := decide (6 < a.p.l.length) || decide (6 < a.q.l.length)
theorem pu_Qs {l : List RQ} : Pu (Vv eQ l) := .fz (Pus.flat fun _ _ => .cons (.ground rfl) (.cons pu_U (.cons (.ground rfl) (.cons pu_U .nil))))
end Go.Abs
