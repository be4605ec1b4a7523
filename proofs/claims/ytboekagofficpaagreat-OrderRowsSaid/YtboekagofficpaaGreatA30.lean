/- What frozen arguments are. -/
import Derived.Test.YtboekagofficpaaGreatQ1
set_option linter.unusedVariables false
set_option linter.unusedSimpArgs false
namespace Go.Abs
open Go Go.Proofs
set_option maxRecDepth 20000

variable {P : Program} {n : Nat} {t : TypeId} {ts : List TypeId} {p : Value} {ps : List Value}
theorem FArgs.cons (h : FArgs P n (t :: ts) ps) : ∃ p qs, ps = p :: qs ∧ FArg P n t p ∧ FArgs P n ts qs := by
  cases ps with
  | nil => exact h.elim
  | cons p qs => exact ⟨p, qs, rfl, h.1, h.2⟩
theorem FArgs.nil (h : FArgs P n [] ps) : ps = [] := by
  cases ps with
  | nil => rfl
  | cons p qs => exact h.elim
theorem FArg.int {k : IntKind} (h : FArg P (n + 1) t p) (hu : P.underlying t = some (.int k)) : ∃ m, p = .int k m ∧ (Lit.int k m).wf = true := by
  unfold FArg at h
  simp only [hu] at h
  unfold FGood at h
  simp only [hu] at h
  obtain ⟨m, h1, h2⟩ := h
  injection h1 with h1
  exact ⟨m, h1, h2⟩
theorem FArg.bool (h : FArg P (n + 1) t p) (hu : P.underlying t = some .bool) : ∃ b, p = .bool b := by
  unfold FArg at h
  simp only [hu] at h
  unfold FGood at h
  simp only [hu] at h
  obtain ⟨b, h1⟩ := h
  injection h1 with h1
  exact ⟨b, h1⟩
theorem FArg.string (h : FArg P (n + 1) t p) (hu : P.underlying t = some .string) : ∃ s, p = .string s ∧ s.size ≤ maxLen := by
  unfold FArg at h
  simp only [hu] at h
  unfold FGood at h
  simp only [hu] at h
  obtain ⟨s, h1, h2⟩ := h
  injection h1 with h1
  exact ⟨s, h1, h2⟩
theorem FArg.struct {fs : Array Field} (h : FArg P n t p) (hu : P.underlying t = some (.struct fs)) : ∃ cs, p = .agg ⟨cs⟩ ∧ FGood P n t cs := by
  unfold FArg at h
  simp only [hu] at h
  exact h
theorem FGood.struct {fs : Array Field} {cs : List Value} (h : FGood P (n + 1) t cs) (hu : P.underlying t = some (.struct fs)) : cs.length = szOf P t ∧ ∀ f ∈ fs.toList, FGood P n f.type ((cs.drop f.offset).take (szOf P f.type)) := by
  unfold FGood at h
  simp only [hu] at h
  exact h
theorem FGood.slice {e : TypeId} {cs : List Value} (h : FGood P (n + 1) t cs) (hu : P.underlying t = some (.slice e)) : ∃ len cells, cs = [fzv len cells] ∧ len ≤ maxLen ∧ cells.length = len * szOf P e ∧ ∀ i, i < len → FGood P n e ((cells.drop (i * szOf P e)).take (szOf P e)) := by
  unfold FGood at h
  simp only [hu] at h
  exact h
theorem FGood.int {k : IntKind} {cs : List Value} (h : FGood P (n + 1) t cs) (hu : P.underlying t = some (.int k)) : ∃ m, cs = [.int k m] ∧ (Lit.int k m).wf = true := by
  unfold FGood at h
  simp only [hu] at h
  exact h
theorem FGood.bool {cs : List Value} (h : FGood P (n + 1) t cs) (hu : P.underlying t = some .bool) : ∃ b, cs = [.bool b] := by
  unfold FGood at h
  simp only [hu] at h
  exact h
theorem wf_u8 {m : Int} (h : (Lit.int .u8 m).wf = true) : 0 ≤ m ∧ m < 256 := by
  simp [Lit.wf, IntKind.min, IntKind.max, IntKind.signed, IntKind.bits] at h; omega
theorem wf_u32 {m : Int} (h : (Lit.int .u32 m).wf = true) : 0 ≤ m ∧ m < 4294967296 := by
  simp [Lit.wf, IntKind.min, IntKind.max, IntKind.signed, IntKind.bits] at h; omega
theorem wf_i32 {m : Int} (h : (Lit.int .i32 m).wf = true) : -2147483648 ≤ m ∧ m < 2147483648 := by
  simp [Lit.wf, IntKind.min, IntKind.max, IntKind.signed, IntKind.bits] at h; omega
theorem wf_i64 {m : Int} (h : (Lit.int .i64 m).wf = true) : -9223372036854775808 ≤ m ∧ m ≤ 9223372036854775807 := by
  simp [Lit.wf, IntKind.min, IntKind.max, IntKind.signed, IntKind.bits] at h; omega
theorem wf_i8 {m : Int} (h : (Lit.int .i8 m).wf = true) : -128 ≤ m ∧ m < 128 := by
  simp [Lit.wf, IntKind.min, IntKind.max, IntKind.signed, IntKind.bits] at h; omega

/-- A row of elements, each told by something. -/
theorem row_of {α : Type} (E : En α) (Q : α → Prop) : ∀ {cells : List Value} {k : Nat}, cells.length = k * E.es → 0 < E.es → (∀ i, i < k → ∃ a, (cells.drop (i * E.es)).take E.es = E.enc a ∧ Q a) → ∃ l : List α, l.length = k ∧ cells = l.flatMap E.enc ∧ ∀ a ∈ l, Q a
  | cells, 0, hl, _, _ => ⟨[], rfl, by rw [Nat.zero_mul] at hl; exact List.length_eq_zero_iff.1 hl, by simp⟩
  | cells, k + 1, hl, h0, h => by
    obtain ⟨a, h1, h2⟩ := h 0 (by omega)
    rw [Nat.zero_mul, List.drop_zero] at h1
    rw [Nat.succ_mul] at hl
    obtain ⟨l, k1, k2, k3⟩ := row_of E Q (cells := cells.drop E.es) (k := k) (by rw [List.length_drop]; omega) h0 (fun i hi => by
      obtain ⟨b, q1, q2⟩ := h (i + 1) (by omega)
      refine ⟨b, ?_, q2⟩
      rw [List.drop_drop, ← q1, Nat.succ_mul, Nat.add_comm])
    refine ⟨a :: l, by simp [k1], ?_, ?_⟩
    · rw [List.flatMap_cons, ← k2, ← h1, List.take_append_drop]
    · intro b hb
      rcases List.mem_cons.1 hb with rfl | hb
      · exact h2
      · exact k3 b hb

theorem fgood_limbs {cs : List Value} (h : FGood Tryz.prog (n + 2) 70 cs) : ∃ l, cs = [Vv eU l] ∧ Lim l ∧ l.length ≤ maxLen := by
  obtain ⟨len, cells, rfl, h1, h2, h3⟩ := h.slice Tryz.underlying70
  rw [T.s50] at h2 h3
  obtain ⟨l, k1, k2, k3⟩ := row_of eU (fun x => 0 ≤ x ∧ x < 4294967296) (cells := cells) (k := len) h2 (by decide) (fun i hi => by
    obtain ⟨m, q1, q2⟩ := (h3 i hi).int Tryz.underlying177
    exact ⟨m, q1, wf_u32 q2⟩)
  subst k1
  exact ⟨l, by rw [k2]; rfl, k3, h1⟩
theorem fgood_int {cs : List Value} (h : FGood Tryz.prog (n + 3) 72 cs) : ∃ ng l, cs = [.bool ng, Vv eU l] ∧ Lim l ∧ l.length ≤ maxLen := by
  obtain ⟨h1, h2⟩ := h.struct Tryz.underlying72
  rw [T.s24] at h1
  have a1 := h2 _ (List.Mem.head _)
  have a2 := h2 _ (List.Mem.tail _ (List.Mem.head _))
  simp only [T.s4, T.s22, List.drop_zero] at a1 a2
  obtain ⟨b, q1⟩ := a1.bool Tryz.underlying4
  obtain ⟨l, q2, q3, q4⟩ := fgood_limbs (n := n) a2
  refine ⟨b, l, ?_, q3, q4⟩
  match cs, h1 with
  | [x, y], _ =>
    simp at q1 q2
    rw [q1, q2]
theorem FArg.num (h : FArg Tryz.prog (n + 3) 72 p) : ∃ ng l, p = In ng l ∧ Lim l ∧ l.length ≤ maxLen := by
  obtain ⟨cs, rfl, h1⟩ := h.struct Tryz.underlying72
  obtain ⟨ng, l, rfl, h2⟩ := fgood_int h1
  exact ⟨ng, l, rfl, h2⟩
end Go.Abs
