/- The document's: which limbs are more, sums, differences. -/
import Derived.Test.YtgblhcnkfcjalaaN14
set_option linter.unusedVariables false
set_option linter.unusedSimpArgs false
namespace Go.Abs
open Go Go.Proofs
set_option maxRecDepth 100000
set_option maxHeartbeats 4000000
set_option linter.unusedSimpArgs false

theorem c159 {H : Heap} {sa sb : Value} {a b : List Int} (hu : U Try.prog H sa a) (hv : U Try.prog H sb b) (ha : Lim a) (hb : Lim b) (ta : Top a) (tb : Top b) (hl : a.length < 2 ^ 62) (hl2 : b.length < 2 ^ 62) : ACalls Try.prog 61 [sa, sb] H fun r H' => r = .int .i64 (sg (val a - val b)) ∧ H' = H := by
  refine ACalls.of_code T.hm (n := 39) Try.func61 rfl rfl rfl rfl ?_; simp only [List.replicate_succ, List.replicate_zero, List.cons_append, List.nil_append]
  by_cases h0 : a.length = b.length
  rotate_left
  · have h1 : (a.length : Int) ≠ (b.length : Int) := by omega
    have hs := sg_len ha hb ta tb h0
    by_cases h2 : (a.length : Int) < b.length
    · simp (maxSteps := 1000000) (disch := first | exact sd | fail) only [go_sem, Nat.reduceAdd, Nat.reduceSub, Nat.reduceLeDiff, ↓reduceIte, decide_eq_true_eq, if_true, if_false, Bool.false_eq_true, Int.lt_irrefl, implies_true, true_and, and_true, eq_self, and_self, beq_self_eq_true, aw_drawn (id := 8), aw_drawn' (id := 8), aw_drawn (id := 10), aw_drawn' (id := 10), hu.len T.i22, hu.addr Try.underlying22 T.s50 T.z50, hu.loadh T.r50,  hv.len T.i22,  hv.addr Try.underlying22 T.s50 T.z50,  hv.loadh T.r50, h1, h2, ne_eq, not_false_eq_true, not_true_eq_false]
      rw [← hs, sg, if_pos (by omega)]
    · simp (maxSteps := 1000000) (disch := first | exact sd | fail) only [go_sem, Nat.reduceAdd, Nat.reduceSub, Nat.reduceLeDiff, ↓reduceIte, decide_eq_true_eq, if_true, if_false, Bool.false_eq_true, Int.lt_irrefl, implies_true, true_and, and_true, eq_self, and_self, beq_self_eq_true, aw_drawn (id := 8), aw_drawn' (id := 8), aw_drawn (id := 10), aw_drawn' (id := 10), hu.len T.i22, hu.addr Try.underlying22 T.s50 T.z50, hu.loadh T.r50,  hv.len T.i22,  hv.addr Try.underlying22 T.s50 T.z50,  hv.loadh T.r50, h1, h2, ne_eq, not_false_eq_true, not_true_eq_false]
      rw [← hs, sg, if_neg (by omega), if_pos (by omega)]
  have h1 : (a.length : Int) = (b.length : Int) := by omega
  simp (maxSteps := 1000000) (disch := first | exact sd | fail) only [go_sem, Nat.reduceAdd, Nat.reduceSub, Nat.reduceLeDiff, ↓reduceIte, decide_eq_true_eq, if_true, if_false, Bool.false_eq_true, Int.lt_irrefl, implies_true, true_and, and_true, eq_self, and_self, beq_self_eq_true, aw_drawn (id := 8), aw_drawn' (id := 8), aw_drawn (id := 10), aw_drawn' (id := 10), hu.len T.i22, hu.addr Try.underlying22 T.s50 T.z50, hu.loadh T.r50,  hv.len T.i22,  hv.addr Try.underlying22 T.s50 T.z50,  hv.loadh T.r50, h1, ne_eq, not_false_eq_true, not_true_eq_false]
  rw [← h1]
  refine aw_loopJ (σ := Nat) (fun k J => [sa, sb, J 2, J 3, .int .i64 0, .int .i64 (k - 1), J 6, J 7, J 8, J 9, J 10, J 11, J 12, J 13, J 14, J 15, J 16, J 17, J 18, J 19, J 20, J 21, J 22, J 23, J 24, J 25, J 26, J 27, J 28, J 29, J 30, J 31, J 32, J 33, J 34, J 35, J 36, J 37, J 38, J 39, J 40]) (fun n k H1 => n = k ∧ H1 = H ∧ k ≤ a.length ∧ a.drop k = b.drop k) a.length a.length rfl ⟨rfl, rfl, Nat.le_refl _, by rw [List.drop_length, h0, List.drop_length]⟩ ?_
  rintro n k J H1 ⟨rfl, rfl, hk, hd⟩
  cases n with
  | zero =>
    simp (maxSteps := 1000000) (disch := first | exact sd | fail) only [go_sem, Nat.reduceAdd, Nat.reduceSub, Nat.reduceLeDiff, ↓reduceIte, decide_eq_true_eq, if_true, if_false, Bool.false_eq_true, Int.lt_irrefl, implies_true, true_and, and_true, eq_self, and_self, beq_self_eq_true, aw_drawn (id := 8), aw_drawn' (id := 8), aw_drawn (id := 10), aw_drawn' (id := 10), show ¬ (0 : Int) ≤ ((0 : Nat) : Int) - 1 by omega]
    rw [List.drop_zero, List.drop_zero] at hd
    subst hd
    rw [Int.sub_self]; rfl
  | succ k =>
    have e1 : (((k + 1 : Nat) : Int) - 1).toNat = k := by omega
    have hsat := fun h => sg_at ha hb h0 (k := k) (by omega) hd h
    by_cases h2 : a.getD k 0 < b.getD k 0
    · simp (maxSteps := 1000000) (disch := first | exact sd | fail) only [go_sem, Nat.reduceAdd, Nat.reduceSub, Nat.reduceLeDiff, ↓reduceIte, decide_eq_true_eq, if_true, if_false, Bool.false_eq_true, Int.lt_irrefl, implies_true, true_and, and_true, eq_self, and_self, beq_self_eq_true, aw_drawn (id := 8), aw_drawn' (id := 8), aw_drawn (id := 10), aw_drawn' (id := 10), show (0 : Int) ≤ ((k + 1 : Nat) : Int) - 1 by omega, hu.len T.i22, hu.addr Try.underlying22 T.s50 T.z50, hu.loadh T.r50,  hv.len T.i22,  hv.addr Try.underlying22 T.s50 T.z50,  hv.loadh T.r50, e1, h2]
      rw [← hsat (by omega), sg, if_pos (by omega)]
    · by_cases h3 : b.getD k 0 < a.getD k 0
      · simp (maxSteps := 1000000) (disch := first | exact sd | fail) only [go_sem, Nat.reduceAdd, Nat.reduceSub, Nat.reduceLeDiff, ↓reduceIte, decide_eq_true_eq, if_true, if_false, Bool.false_eq_true, Int.lt_irrefl, implies_true, true_and, and_true, eq_self, and_self, beq_self_eq_true, aw_drawn (id := 8), aw_drawn' (id := 8), aw_drawn (id := 10), aw_drawn' (id := 10), show (0 : Int) ≤ ((k + 1 : Nat) : Int) - 1 by omega, hu.len T.i22, hu.addr Try.underlying22 T.s50 T.z50, hu.loadh T.r50,  hv.len T.i22,  hv.addr Try.underlying22 T.s50 T.z50,  hv.loadh T.r50, e1, h2, h3]
        rw [← hsat (by omega), sg, if_neg (by omega), if_pos (by omega)]
      · simp (maxSteps := 1000000) (disch := first | exact sd | fail) only [go_sem, Nat.reduceAdd, Nat.reduceSub, Nat.reduceLeDiff, ↓reduceIte, decide_eq_true_eq, if_true, if_false, Bool.false_eq_true, Int.lt_irrefl, implies_true, true_and, and_true, eq_self, and_self, beq_self_eq_true, aw_drawn (id := 8), aw_drawn' (id := 8), aw_drawn (id := 10), aw_drawn' (id := 10), show (0 : Int) ≤ ((k + 1 : Nat) : Int) - 1 by omega, hu.len T.i22, hu.addr Try.underlying22 T.s50 T.z50, hu.loadh T.r50,  hv.len T.i22,  hv.addr Try.underlying22 T.s50 T.z50,  hv.loadh T.r50, e1, h2, h3]
        refine IJ_intro (k := k) (by omega) k ?_ ⟨rfl, rfl, by omega, ?_⟩
        · rw [show ((k + 1 : Nat) : Int) - 1 - 1 = (k : Int) - 1 by omega]; rfl
        · rw [drop_getD (by omega), drop_getD (a := b) (by omega), show a.getD k 0 = b.getD k 0 by omega, hd]
end Go.Abs
