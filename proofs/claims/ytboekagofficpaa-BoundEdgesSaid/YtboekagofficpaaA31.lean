/- What frozen arguments are: quotients, rows, tables. -/
import Derived.Test.YtboekagofficpaaA30
import Derived.Test.YtboekagofficpaaVa
set_option linter.unusedVariables false
set_option linter.unusedSimpArgs false
namespace Go.Abs
open Go Go.Proofs
set_option maxRecDepth 20000
variable {P : Program} {n : Nat} {t : TypeId} {p : Value} {ps : List Value}

theorem fgood_rat {cs : List Value} (h : FGood Try.prog (n + 4) 74 cs) : ∃ a : RQ, cs = eQ.enc a ∧ Lim a.p.l ∧ Lim a.q.l := by
  obtain ⟨h1, h2⟩ := h.struct Try.underlying74
  rw [T.s55] at h1
  have a1 := h2 _ (List.Mem.head _)
  have a2 := h2 _ (List.Mem.tail _ (List.Mem.head _))
  simp only [T.s24, List.drop_zero] at a1 a2
  obtain ⟨n1, l1, q1, k1, _⟩ := fgood_int (n := n) a1
  obtain ⟨n2, l2, q2, k2, _⟩ := fgood_int (n := n) a2
  refine ⟨⟨⟨n1, l1⟩, ⟨n2, l2⟩⟩, ?_, k1, k2⟩
  match cs, h1 with
  | [x, y, z, w], _ =>
    simp at q1 q2
    rw [q1.1, q1.2, q2.1, q2.2]
    rfl
def LimQ (a : RQ) : Prop := Lim a.p.l ∧ Lim a.q.l
theorem fgood_rats {cs : List Value} (h : FGood Try.prog (n + 5) 28 cs) : ∃ l : List RQ, cs = [Vv eQ l] ∧ l.length ≤ maxLen ∧ ∀ a ∈ l, LimQ a := by
  obtain ⟨len, cells, rfl, h1, h2, h3⟩ := h.slice Try.underlying28
  rw [T.s55] at h2 h3
  obtain ⟨l, k1, k2, k3⟩ := row_of eQ LimQ (cells := cells) (k := len) h2 (by decide) (fun i hi => by
    obtain ⟨a, q1, q2⟩ := fgood_rat (n := n) (h3 i hi)
    exact ⟨a, q1, q2⟩)
  subst k1
  exact ⟨l, by rw [k2]; rfl, h1, k3⟩
theorem fgood_table {cs : List Value} (h : FGood Try.prog (n + 6) 33 cs) : ∃ l : List (List RQ), cs = [Vv eR l] ∧ l.length ≤ maxLen ∧ ∀ r ∈ l, r.length ≤ maxLen ∧ ∀ a ∈ r, LimQ a := by
  obtain ⟨len, cells, rfl, h1, h2, h3⟩ := h.slice Try.underlying33
  rw [T.s70] at h2 h3
  obtain ⟨l, k1, k2, k3⟩ := row_of eR (fun r => r.length ≤ maxLen ∧ ∀ a ∈ r, LimQ a) (cells := cells) (k := len) h2 (by decide) (fun i hi => by
    obtain ⟨r, q1, q2⟩ := fgood_rats (n := n) (h3 i hi)
    exact ⟨r, q1, q2⟩)
  subst k1
  exact ⟨l, by rw [k2]; rfl, h1, k3⟩
theorem FArg.rat (h : FArg Try.prog (n + 4) 74 p) : ∃ pn pl qn ql, p = R4 pn pl qn ql ∧ Lim pl ∧ Lim ql := by
  obtain ⟨cs, rfl, h1⟩ := h.struct Try.underlying74
  obtain ⟨a, rfl, h2, h3⟩ := fgood_rat h1
  exact ⟨_, _, _, _, rfl, h2, h3⟩
theorem FArg.slice {e : TypeId} (h : FArg P n t p) (hu : P.underlying t = some (.slice e)) : FGood P n t [p] := by
  unfold FArg at h
  simp only [hu] at h
  exact h
theorem FArg.rats (h : FArg Try.prog (n + 5) 28 p) : ∃ l : List RQ, p = Vv eQ l ∧ l.length ≤ maxLen ∧ ∀ a ∈ l, LimQ a := by
  obtain ⟨l, h1, h2⟩ := fgood_rats (h.slice Try.underlying28)
  injection h1 with h1
  exact ⟨l, h1, h2⟩
theorem FArg.table (h : FArg Try.prog (n + 6) 33 p) : ∃ l : List (List RQ), p = Vv eR l ∧ l.length ≤ maxLen ∧ ∀ r ∈ l, r.length ≤ maxLen ∧ ∀ a ∈ r, LimQ a := by
  obtain ⟨l, h1, h2⟩ := fgood_table (h.slice Try.underlying33)
  injection h1 with h1
  exact ⟨l, h1, h2⟩
end Go.Abs
