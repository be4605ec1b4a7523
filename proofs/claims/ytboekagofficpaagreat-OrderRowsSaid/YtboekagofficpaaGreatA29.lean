/- What arguments are. -/
import Derived.Test.YtboekagofficpaaGreatT
set_option linter.unusedVariables false
set_option linter.unusedSimpArgs false
namespace Go.Abs
set_option maxRecDepth 20000
open Go Go.Proofs

theorem Good.ofBool {P : Program} {t : TypeId} {H : Heap} {n : Nat} {cs : List Value} (hu : P.underlying t = some .bool) (h : Good P H (n + 1) t cs) : ∃ b, cs = [.bool b] := by
  unfold Good at h
  rw [hu] at h
  exact h
theorem Good.ofInt {P : Program} {t : TypeId} {k : IntKind} {H : Heap} {n : Nat} {cs : List Value} (hu : P.underlying t = some (.int k)) (h : Good P H (n + 1) t cs) : ∃ m, cs = [.int k m] ∧ (Lit.int k m).wf = true := by
  unfold Good at h
  rw [hu] at h
  exact h
theorem Good.ofSlice {P : Program} {t e : TypeId} {H : Heap} {n : Nat} {xs : List Value} (hu : P.underlying t = some (.slice e)) (h : Good P H (n + 1) t xs) : xs = [.slice none 0 0] ∨ xs = [.slice (some ⟨0, 0, none⟩) 0 unk] ∨
        ∃ b len el cells, xs = [.slice (some ⟨b, 0, none⟩) len unk] ∧ H.get b = some (.row false el cells) ∧ 0 < len ∧ len ≤ maxLen ∧ cells.length = len * szOf P e ∧ ∀ i, i < len → Good P H n e ((cells.drop (i * szOf P e)).take (szOf P e)) := by
  unfold Good at h
  rw [hu] at h
  exact h
theorem Good.ofStruct {P : Program} {t : TypeId} {fs : Array Field} {H : Heap} {n : Nat} {xs : List Value} (hu : P.underlying t = some (.struct fs)) (h : Good P H (n + 1) t xs) : xs.length = szOf P t ∧ ∀ f ∈ fs.toList, Good P H n f.type ((xs.drop f.offset).take (szOf P f.type)) := by
  unfold Good at h
  rw [hu] at h
  exact h
theorem GoodArg.ofStruct {P : Program} {t : TypeId} {fs : Array Field} {H : Heap} {n : Nat} {v : Value} (hu : P.underlying t = some (.struct fs)) (h : GoodArg P H n t v) : ∃ cs, v = .agg ⟨cs⟩ ∧ Good P H n t cs := by
  unfold GoodArg at h
  rw [hu] at h
  exact h
theorem GoodArg.ofInt {P : Program} {t : TypeId} {k : IntKind} {H : Heap} {n : Nat} {v : Value} (hu : P.underlying t = some (.int k)) (h : GoodArg P H (n + 1) t v) : ∃ m, v = .int k m ∧ (Lit.int k m).wf = true := by
  unfold GoodArg at h
  rw [hu] at h
  obtain ⟨m, h1, h2⟩ := Good.ofInt hu h
  injection h1 with h1
  exact ⟨m, h1, h2⟩

theorem good_bool {H : Heap} {n : Nat} {cs : List Value} (h : Good Tryz.prog H (n + 1) 4 cs) : ∃ b, cs = [.bool b] := by
  exact Good.ofBool Tryz.underlying4 h
theorem good_u32 {H : Heap} {n : Nat} {cs : List Value} (h : Good Tryz.prog H (n + 1) 177 cs) : ∃ x : Int, cs = [.int .u32 x] ∧ 0 ≤ x ∧ x < 4294967296 := by
  obtain ⟨m, h1, h2⟩ := Good.ofInt Tryz.underlying177 h
  refine ⟨m, h1, ?_⟩
  simp [Lit.wf, IntKind.min, IntKind.max, IntKind.signed, IntKind.bits] at h2
  omega

/-- A row of numbers of 32 bits. -/
theorem row32_of {cells : List Value} {k : Nat} (hl : cells.length = k) (h : ∀ i, i < k → ∃ x : Int, (cells.drop i).take 1 = [.int .u32 x] ∧ 0 ≤ x ∧ x < 4294967296) : ∃ l : List Int, l.length = k ∧ cells = l.map (.int .u32) ∧ Lim l := by
  induction cells generalizing k with
  | nil => exact ⟨[], by simpa using hl, rfl, Lim.nil⟩
  | cons c cs ih =>
    subst hl
    obtain ⟨x, h1, h2⟩ := h 0 (by simp)
    simp at h1
    obtain ⟨l, k1, k2, k3⟩ := ih rfl (fun i hi => by
      have := h (i + 1) (by simpa using hi)
      simpa using this)
    exact ⟨x :: l, by simp [k1], by rw [h1, k2]; rfl, Lim.cons h2 k3⟩

theorem good_limbs {H : Heap} {n : Nat} {cs : List Value} (hf : ∀ b, H.next ≤ b → H.get b = none) (h : Good Tryz.prog H (n + 2) 70 cs) : ∃ sl l, cs = [sl] ∧ U Tryz.prog H sl l ∧ Lim l ∧ l.length ≤ maxLen := by
  rcases Good.ofSlice Tryz.underlying70 h with h | h | ⟨b, len, el, cells, h1, h2, h3, h4, h5, h6⟩
  · exact ⟨_, [], h, .nil, Lim.nil, Nat.zero_le _⟩
  · exact ⟨_, [], h, .void, Lim.nil, Nat.zero_le _⟩
  · rw [T.s50] at h5
    obtain ⟨l, k1, k2, k3⟩ := row32_of (cells := cells) (k := len) (by omega) (fun i hi => by
      have := h6 i hi
      rw [T.s50, Nat.mul_one] at this
      exact good_u32 this)
    refine ⟨_, l, h1, ?_, k3, by omega⟩
    have hb : b < H.next := by
      rcases Nat.lt_or_ge b H.next with h' | h'
      · exact h'
      · rw [hf b h'] at h2; cases h2
    have := Sl.row (P := Tryz.prog) (es := 1) (n := len) (off := 0) h2 hb (.inl rfl) (.inl rfl) (by omega)
    rw [List.drop_zero, List.take_of_length_le (by omega), k2] at this
    unfold U
    rw [k1]
    exact this

theorem good_int {H : Heap} {n : Nat} {v : Value} (hf : ∀ b, H.next ≤ b → H.get b = none) (h : GoodArg Tryz.prog H (n + 3) 72 v) : ∃ ng l, IA Tryz.prog H v ng l ∧ l.length ≤ maxLen := by
  obtain ⟨cs, rfl, hg⟩ := GoodArg.ofStruct Tryz.underlying72 h
  obtain ⟨h1, h2⟩ := Good.ofStruct Tryz.underlying72 hg
  rw [T.s24] at h1
  match cs, h1 with
  | [a, b], _ =>
    have ha := h2 ⟨ "Neg", 4, 0, false, "", "", 0⟩ (by simp)
    have hb := h2 ⟨ "L", 70, 1, false, "", "", 8⟩ (by simp)
    simp only [T.s4, T.s22, List.drop_zero, List.take_succ_cons, List.take_zero, List.drop_succ_cons] at ha hb
    obtain ⟨x, hx⟩ := good_bool ha
    obtain ⟨sl, l, k1, k2, k3, k4⟩ := good_limbs hf hb
    injection hx with hx
    injection k1 with k1
    subst hx; subst k1
    exact ⟨x, l, ⟨_, rfl, k2, k3⟩, k4⟩

theorem good_i64 {H : Heap} {n : Nat} {v : Value} (h : GoodArg Tryz.prog H (n + 1) 2 v) : ∃ x : Int, v = .int .i64 x ∧ -9223372036854775808 ≤ x ∧ x ≤ 9223372036854775807 := by
  obtain ⟨m, h1, h2⟩ := GoodArg.ofInt Tryz.underlying2 h
  refine ⟨m, h1, ?_⟩
  simp [Lit.wf, IntKind.min, IntKind.max, IntKind.signed, IntKind.bits] at h2
  omega
end Go.Abs
