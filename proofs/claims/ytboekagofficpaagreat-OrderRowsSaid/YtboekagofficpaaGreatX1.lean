/- More rules: the greater, the lesser of two; a slice's first part that is one's own. -/
import Derived.Test.YtboekagofficpaaGreatN25
set_option linter.unusedVariables false
set_option linter.unusedSimpArgs false
namespace Go.Abs
open Go Go.Proofs
set_option maxRecDepth 100000
set_option linter.unusedSimpArgs false
section
variable {P : Program} {e : Env} {H : Heap} {K : Value → Heap → Prop} {d : Option Tmp} {ty : TypeId} {ps : String} {af : Array Edge} {gd : Option (Nat × Bool)}
def aMx (P : Program) (ats : Array TypeId) (ty : TypeId) (a b : Value) : Option Value := if [a, b].all gr = true then scal P (Builtin.max_ ats ty ⟨[a, b]⟩) else none
def aMn (P : Program) (ats : Array TypeId) (ty : TypeId) (a b : Value) : Option Value := if [a, b].all gr = true then scal P (Builtin.min_ ats ty ⟨[a, b]⟩) else none
theorem s_max {x y : Operand} {ats : Array TypeId} : aStep P e H ⟨d, .call ⟨.builtin .max, ⟨[x, y]⟩, ats⟩, ty, ps, af, gd⟩ K = ob (e x) fun a => ob (e y) fun b => ob (aMx P ats ty a b) fun v => K v H := by
  show ob (aPure P e _) _ = _
  simp only [aPure, evs]
  cases e x with
  | none => rfl
  | some a =>
    cases e y with
    | none => rfl
    | some b => rfl
theorem s_min {x y : Operand} {ats : Array TypeId} : aStep P e H ⟨d, .call ⟨.builtin .min, ⟨[x, y]⟩, ats⟩, ty, ps, af, gd⟩ K = ob (e x) fun a => ob (e y) fun b => ob (aMn P ats ty a b) fun v => K v H := by
  show ob (aPure P e _) _ = _
  simp only [aPure, evs]
  cases e x with
  | none => rfl
  | some a =>
    cases e y with
    | none => rfl
    | some b => rfl
theorem mx_int {ats : Array TypeId} {k k' : IntKind} {a b : Int} : aMx P ats ty (.int k a) (.int k' b) = some (.int k (if a < b then b else a)) := by
  unfold aMx
  rw [if_pos (by simp [gr_int])]
  simp [scal, semPure, Builtin.max_, Builtin.max2, pure, gr, ground, bind, Sem.bind]
theorem mn_int {ats : Array TypeId} {k k' : IntKind} {a b : Int} : aMn P ats ty (.int k a) (.int k' b) = some (.int k (if b < a then b else a)) := by
  unfold aMn
  rw [if_pos (by simp [gr_int])]
  simp [scal, semPure, Builtin.min_, Builtin.min2, pure, gr, ground, bind, Sem.bind]
end
attribute [go_sem] s_max s_min mx_int mn_int

theorem Ow.upto {P : Program} {H0 H : Heap} {es n : Nat} {el t : TypeId} {sl : Value} {cells : List Value} (h : Ow P H0 H es el sl n cells) (ht : P.underlying t = some (.slice el)) (hz : sized P el = true) {k : IntKind} {i : Nat} (hi : i ≤ n) :
    ∃ sl', aSlice P H t sl none (some (.int k i)) none = some sl' ∧ Ow P H0 H es el sl' i (cells.take (i * es)) ∧ sblk sl' = sblk sl ∧ soff sl' = soff sl := by
  cases h with
  | nil =>
    have : i = 0 := by omega
    subst this
    exact ⟨.slice none 0 0, by simp [aSlice, ht, hz, aBound, unk], by simpa using Ow.nil, _root_.rfl, _root_.rfl⟩
  | @row b off n c cs hg hb0 hb hc hl =>
    refine ⟨.slice (some ⟨b, off, none⟩) i c, ?_, ?_, _root_.rfl, _root_.rfl⟩
    · rcases hc with rfl | ⟨hc, hc', _⟩
      · simp only [aSlice, ht, hz, if_true, aBound]
        rw [if_pos ⟨by omega, by omega⟩]
        simp
      · simp only [aSlice, ht, hz, if_true, aBound]
        rw [if_neg (by omega), if_pos hc', if_pos ⟨by omega, by omega⟩]
        simp
    · rw [List.take_take]
      have hm : i * es ≤ n * es := Nat.mul_le_mul_right _ hi
      rw [Nat.min_eq_left hm]
      exact .row hg hb0 hb (by rcases hc with h | ⟨h1, h2, h3⟩; exact .inl h; exact .inr ⟨by omega, h2, h3⟩) (by omega)
theorem UO.upto {H0 H : Heap} {sl : Value} {l : List Int} (h : UO Tryz.prog H0 H sl l) {k : IntKind} {i : Nat} (hi : i ≤ l.length) :
    ∃ sl', aSlice Tryz.prog H 70 sl none (some (.int k i)) none = some sl' ∧ UO Tryz.prog H0 H sl' (l.take i) ∧ sblk sl' = sblk sl ∧ soff sl' = soff sl := by
  obtain ⟨sl', h1, h2, h3⟩ := Ow.upto h Tryz.underlying70 T.z50 (k := k) hi
  refine ⟨sl', h1, ?_, h3⟩
  unfold UO
  rw [List.length_take, Nat.min_eq_left hi, List.map_take]
  rwa [Nat.mul_one] at h2
/-- A slice of one's own stands where another block turns. -/
theorem UO.only {H0 H H' : Heap} {sl : Value} {l : List Int} {b : Nat} (h : UO Tryz.prog H0 H sl l) (ho : Only b H H') (hne : sblk sl ≠ b) : UO Tryz.prog H0 H' sl l :=
  Ow.keep h (fun c hc _ _ => ho.2 c (by rw [hc]; exact hne)) (Nat.le_of_eq ho.1.symm)
theorem U.only {H H' : Heap} {sl : Value} {l : List Int} {b : Nat} (h : U Tryz.prog H sl l) (ho : Only b H H') (hne : sblk sl ≠ b) : U Tryz.prog H' sl l := by
  unfold U at h ⊢
  generalize l.length = n at h
  generalize l.map (Value.int .u32) = cs at h
  cases h with
  | nil => exact .nil
  | void => exact .void
  | row hg hb he hc hl => exact .row ((ho.2 _ hne).trans hg) (by rw [ho.1]; exact hb) he hc hl
end Go.Abs
