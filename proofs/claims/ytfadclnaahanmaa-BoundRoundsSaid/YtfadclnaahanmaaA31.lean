/- What frozen arguments are: quotients, rows, tables. -/
import Derived.Test.YtfadclnaahanmaaA30
import Derived.Test.YtfadclnaahanmaaVa
set_option linter.unusedVariables false
set_option linter.unusedSimpArgs false
namespace Go.Abs
open Go Go.Proofs
set_option maxRecDepth 20000
variable {P : Program} {n : Nat} {t : TypeId} {p : Value} {ps : List Value}

theorem fgood_rat {cs : List Value} (h : FGood Try.prog (n + 4) 47 cs) : ∃ a : RQ, cs = eQ.enc a ∧ Lim a.p.l ∧ Lim a.q.l := by
  obtain ⟨h1, h2⟩ := h.struct Try.underlying47
  rw [T.s55] at h1
  have a1 := h2 _ (List.Mem.head _)
  have a2 := h2 _ (List.Mem.tail _ (List.Mem.head _))
  simp only [T.s24, List.drop_zero] at a1 a2
  obtain ⟨n1, l1, q1, k1, _⟩ := fgood_int (n := n) a1
  obtain ⟨n2, l2, q2, k2, _⟩ := fgood_int (n := n) a2
  refine ⟨⟨⟨n1, l1⟩, ⟨n2, l2⟩⟩, ?_, k1, k2⟩
  match cs, h1 with
  | [x, y, z, w], _ =>
    simp at q1 q2
    rw [q1.1, q1.2, q2.1, q2.2]
    rfl
def LimQ (a : RQ) : Prop := Lim a.p.l ∧ Lim a.q.l
theorem FArg.rat (h : FArg Try.prog (n + 4) 47 p) : ∃ pn pl qn ql, p = R4 pn pl qn ql ∧ Lim pl ∧ Lim ql := by
  obtain ⟨cs, rfl, h1⟩ := h.struct Try.underlying47
  obtain ⟨a, rfl, h2, h3⟩ := fgood_rat h1
  exact ⟨_, _, _, _, rfl, h2, h3⟩
theorem FArg.slice {e : TypeId} (h : FArg P n t p) (hu : P.underlying t = some (.slice e)) : FGood P n t [p] := by
  unfold FArg at h
  simp only [hu] at h
  exact h
end Go.Abs
