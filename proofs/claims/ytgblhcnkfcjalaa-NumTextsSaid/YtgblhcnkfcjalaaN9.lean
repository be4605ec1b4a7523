/- More limbs than a statement reckons with. -/
import Derived.Test.YtgblhcnkfcjalaaN8
set_option linter.unusedVariables false
set_option linter.unusedSimpArgs false
namespace Go.Abs
open Go Go.Proofs
set_option maxRecDepth 10000
set_option linter.unusedSimpArgs false

/-- A slice of numbers: at each place a sign and limbs. -/
def IAs (H : Heap) (sl : Value) (ls : List (Bool × List Int)) : Prop :=
  ∃ cells, Sl Try.prog H 2 sl ls.length cells ∧ ∀ i ng l, ls[i]? = some (ng, l) → ∃ s, cells[i * 2]? = some (.bool ng) ∧ cells[i * 2 + 1]? = some s ∧ U Try.prog H s l ∧ Lim l

theorem c40 {H : Heap} {sl : Value} {ls : List (Bool × List Int)} (h : IAs H sl ls) (hb : ls.length < 2 ^ 62) : ACalls Try.prog 15 [sl] H fun r H' => r = .bool (ls.any fun p => decide (40 < p.2.length)) ∧ H' = H := by
  obtain ⟨cells, hs, hc⟩ := h
  have hlen := hs.length
  refine ACalls.of_code T.hm (n := 16) Try.func15 rfl rfl rfl rfl ?_; simp only [List.replicate_succ, List.replicate_zero, List.cons_append, List.nil_append]
  simp (maxSteps := 1000000) (disch := first | exact sd | fail) only [go_sem, Nat.reduceAdd, Nat.reduceSub, Nat.reduceLeDiff, ↓reduceIte, decide_eq_true_eq, if_true, if_false, Bool.false_eq_true, Int.lt_irrefl]
  refine aw_loopJ (σ := Nat) (fun k J => [sl, J 1, .bool false, .int .i64 k, J 4, J 5, J 6, J 7, J 8, J 9, J 10, J 11, J 12, J 13, J 14, J 15, J 16]) (fun n k H1 => n = ls.length - k ∧ H1 = H ∧ k ≤ ls.length ∧ ∀ i, i < k → ∀ p, ls[i]? = some p → ¬ 40 < p.2.length) ls.length 0 rfl ⟨rfl, rfl, Nat.zero_le _, fun i hi => by omega⟩ ?_
  rintro n k J H1 ⟨rfl, rfl, hk, hall⟩
  by_cases h4 : (k : Int) < ls.length
  · have hk' : k < ls.length := by omega
    obtain ⟨s, c1, c2, hu, hl⟩ := hc k (ls[k]).1 (ls[k]).2 (by rw [List.getElem?_eq_getElem hk'])
    have hld : aLoad Try.prog H1 22 (.pointer (some (sadr sl (k * 2 + 1)))) = some s := by rw [hs.load T.r22 (by omega), c2]
    by_cases h5 : 40 < (ls[k]).2.length
    · simp (maxSteps := 1000000) (disch := first | exact sd | fail) only [go_sem, Nat.reduceAdd, Nat.reduceSub, Nat.reduceLeDiff, ↓reduceIte, decide_eq_true_eq, if_true, if_false, Bool.false_eq_true, Int.lt_irrefl, hs.len T.i147, h4, hs.addr Try.underlying54 T.s24 T.z24, Int.toNat_natCast, hld, hu.len T.i22, show (40 : Int) < (ls[k]).2.length by omega]
      refine ⟨?_, by trivial⟩
      have : (ls.any fun p => decide (40 < p.2.length)) = true := by
        rw [List.any_eq_true]
        exact ⟨ls[k], List.getElem_mem hk', by simpa using h5⟩
      rw [this]
    · simp (maxSteps := 1000000) (disch := first | exact sd | fail) only [go_sem, Nat.reduceAdd, Nat.reduceSub, Nat.reduceLeDiff, ↓reduceIte, decide_eq_true_eq, if_true, if_false, Bool.false_eq_true, Int.lt_irrefl, hs.len T.i147, h4, hs.addr Try.underlying54 T.s24 T.z24, Int.toNat_natCast, hld, hu.len T.i22, show ¬ (40 : Int) < (ls[k]).2.length by omega]
      refine IJ_intro (k := ls.length - (k + 1)) (by omega) (k + 1) rfl ⟨rfl, rfl, by omega, fun i hi p hp => ?_⟩
      by_cases h6 : i = k
      · subst h6
        rw [List.getElem?_eq_getElem hk'] at hp
        injection hp with hp; subst hp; exact h5
      · exact hall i (by omega) p hp
  · simp (maxSteps := 1000000) (disch := first | exact sd | fail) only [go_sem, Nat.reduceAdd, Nat.reduceSub, Nat.reduceLeDiff, ↓reduceIte, decide_eq_true_eq, if_true, if_false, Bool.false_eq_true, Int.lt_irrefl, hs.len T.i147, h4]
    refine ⟨?_, by trivial⟩
    have : (ls.any fun p => decide (40 < p.2.length)) = false := by
      rw [List.any_eq_false]
      intro p hp
      obtain ⟨i, hi, rfl⟩ := List.getElem_of_mem hp
      have := hall i (by omega) _ (List.getElem?_eq_getElem hi)
      simpa using this
    rw [this]
end Go.Abs
