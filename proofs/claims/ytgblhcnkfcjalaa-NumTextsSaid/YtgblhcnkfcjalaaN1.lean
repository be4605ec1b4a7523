/- Numbers: whether one may be, its limbs, its sign. -/
import Derived.Test.YtgblhcnkfcjalaaT
set_option linter.unusedVariables false
set_option linter.unusedSimpArgs false
namespace Go.Abs
open Go Go.Proofs

/-- Whether a number may be. -/
def mayB (ng : Bool) (l : List Int) : Bool := if l.length = 0 then !ng else decide (l.getD (l.length - 1) 0 ≠ 0)

set_option maxRecDepth 10000
set_option linter.unusedSimpArgs false

theorem c51 {H : Heap} {v : Value} {ng : Bool} {l : List Int} (h : IA Try.prog H v ng l) (hb : l.length < 2 ^ 62) : ACalls Try.prog 26 [v] H fun r H' => r = .bool (mayB ng l) ∧ Hle H H' := by
  obtain ⟨sl, rfl, hu, hl⟩ := h
  refine ACalls.of_code T.hm (n := 18) Try.func26 rfl rfl rfl rfl ?_; simp only [List.replicate_succ, List.replicate_zero, List.cons_append, List.nil_append]
  simp (maxSteps := 1000000) (disch := first | exact sd | fail) only [go_sem, Nat.reduceAdd, Nat.reduceSub, Nat.reduceLeDiff, ↓reduceIte, decide_eq_true_eq, if_true, if_false, Bool.false_eq_true, Int.lt_irrefl, hu.len T.i22]
  split
  · rename_i h0
    have : l.length = 0 := by omega
    simp [mayB, this, Hle.push0]
  · simp (maxSteps := 1000000) (disch := first | exact sd | fail) only [go_sem, Nat.reduceAdd, Nat.reduceSub, Nat.reduceLeDiff, ↓reduceIte, decide_eq_true_eq, if_true, if_false, Bool.false_eq_true, Int.lt_irrefl, hu.addr Try.underlying22 T.s50 T.z50, hu.loadh T.r50]
    rename_i h0
    have : ¬ l.length = 0 := by omega
    simp [mayB, this, Hle.push0, show (↑l.length - 1 : Int).toNat = l.length - 1 by omega]

theorem c142 {H : Heap} {v : Value} {ng : Bool} {l : List Int} (h : IA Try.prog H v ng l) (hb : l.length < 2 ^ 62) : ACalls Try.prog 44 [v] H fun r H' => U Try.prog H' r (if mayB ng l then l else []) ∧ Hle H H' := by
  have h' := h
  obtain ⟨sl, rfl, hu, hl⟩ := h'
  refine ACalls.of_code T.hm (n := 7) Try.func44 rfl rfl rfl rfl ?_; simp only [List.replicate_succ, List.replicate_zero, List.cons_append, List.nil_append]
  simp (maxSteps := 1000000) (disch := first | exact sd | fail) only [go_sem, Nat.reduceAdd, Nat.reduceSub, Nat.reduceLeDiff, ↓reduceIte, decide_eq_true_eq, if_true, if_false, Bool.false_eq_true, Int.lt_irrefl]
  refine (c51 (h.mono (Hle.push0 _)) hb).mono ?_
  rintro _ H' ⟨rfl, hle⟩
  have hg : H'.get H.next = some (.row true 24 [.bool ng, sl]) := by rw [hle.get _ (by simp)]; exact get_push_self _ _
  have hle0 : Hle H H' := (Hle.push0 _).trans hle
  simp (maxSteps := 1000000) (disch := first | exact sd | fail) only [go_sem, Nat.reduceAdd, Nat.reduceSub, Nat.reduceLeDiff, ↓reduceIte, decide_eq_true_eq, if_true, if_false, Bool.false_eq_true, Int.lt_irrefl, hg]
  cases mayB ng l with
  | true => simp only [Bool.not_true, Bool.false_eq_true, if_false, if_true]; exact ⟨hu.mono hle0, hle0⟩
  | false => simp only [Bool.not_false, Bool.false_eq_true, if_false, if_true]; exact ⟨.nil, hle0⟩
end Go.Abs
