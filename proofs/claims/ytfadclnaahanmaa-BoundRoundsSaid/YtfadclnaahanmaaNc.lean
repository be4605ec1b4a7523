/- Joined: N9, N10, N11. -/
import Derived.Test.YtfadclnaahanmaaNb
/- More limbs than a statement reckons with. -/
set_option linter.unusedVariables false
set_option linter.unusedSimpArgs false
namespace Go.Abs
open Go Go.Proofs
set_option maxRecDepth 10000
set_option linter.unusedSimpArgs false

def IAs (H : Heap) (sl : Value) (ls : List (Bool × List Int)) : Prop :=
  ∃ cells, Sl Try.prog H 2 sl ls.length cells ∧ ∀ i ng l, ls[i]? = some (ng, l) → ∃ s, cells[i * 2]? = some (.bool ng) ∧ cells[i * 2 + 1]? = some s ∧ U Try.prog H s l ∧ Lim l

end Go.Abs

/- The document's examples. -/
set_option linter.unusedVariables false
set_option linter.unusedSimpArgs false
namespace Go.Abs
open Go Go.Proofs
end Go.Abs

/- NumForms, on abstract values. -/
set_option linter.unusedVariables false
set_option linter.unusedSimpArgs false
namespace Go.Abs
open Go Go.Proofs
set_option maxRecDepth 10000
set_option linter.unusedSimpArgs false

def pl4_6 : Plan := ⟨[0, 2], [(1, [2], []), (3, [], [4, 5, 6, 7, 8, 9, 10, 11, 12, 13, 14, 15, 16, 18]), (17, [], []), (19, [], []), (20, [], [21, 22, 23, 24, 25, 26, 27, 28, 29, 30]), (31, [], [32, 33])]⟩
theorem rows1_2 {z a b : Value} : rFill 2 z 1 [(0, .agg ⟨[a, b]⟩)] = some [a, b] := rFill1 rfl
theorem rows2_2 {z a b c d : Value} : rFill 2 z 2 [(0, .agg ⟨[a, b]⟩), (1, .agg ⟨[c, d]⟩)] = some [a, b, c, d] := rFill2 rfl rfl
theorem rows3_2 {z a b c d e f : Value} : rFill 2 z 3 [(0, .agg ⟨[a, b]⟩), (1, .agg ⟨[c, d]⟩), (2, .agg ⟨[e, f]⟩)] = some [a, b, c, d, e, f] := rFill3 rfl rfl rfl
attribute [go_sem] rows1_2 rows2_2 rows3_2

theorem IAs.one {H : Heap} {sl : Value} {ng : Bool} {l : List Int} (hu : U Try.prog H sl l) (hl : Lim l) : IAs (H.push (.row true 40 [.bool ng, sl])) (.slice (some ⟨H.next, 0, none⟩) 1 1) [(ng, l)] := by
  refine ⟨[.bool ng, sl], ?_, ?_⟩
  · exact Sl.row (P := Try.prog) (es := 2) (n := 1) (off := 0) (cs := [.bool ng, sl]) (get_push_self _ _) (by simp) (.inr T.s24) (.inr ⟨Nat.le_refl _, by unfold unk; omega⟩) (by simp)
  · intro i ng' l' h
    match i, h with
    | 0, h =>
      simp only [List.getElem?_cons_zero, Option.some.injEq, Prod.mk.injEq] at h
      obtain ⟨rfl, rfl⟩ := h
      exact ⟨sl, rfl, rfl, hu.mono (Hle.push0 _), hl⟩
    | i + 1, h => simp at h

end Go.Abs
