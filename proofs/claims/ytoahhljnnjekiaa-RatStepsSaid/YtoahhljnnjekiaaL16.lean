/- RatSteps, on values. -/
import Derived.Test.YtoahhljnnjekiaaV7
import Derived.Test.YtoahhljnnjekiaaA31
set_option linter.unusedVariables false
set_option linter.unusedSimpArgs false
namespace Go.Abs
open Go Go.Proofs
set_option maxRecDepth 100000
set_option maxHeartbeats 40000000
def stp (k : Nat) : Rat := Rat.divInt k (k + 1)
theorem stp_succ (k : Nat) : stp k + Rat.divInt 1 (((k : Int) + 1) * ((k : Int) + 1 + 1)) = stp (k + 1) := by
  unfold stp
  have h1 : ((k : Int) + 1) ≠ 0 := by omega
  have h2 : ((k : Int) + 1 + 1) ≠ 0 := by omega
  rw [Rat.divInt_add_divInt _ _ h1 (Int.mul_ne_zero h1 h2), Rat.divInt_eq_divInt_iff (Int.mul_ne_zero h1 (Int.mul_ne_zero h1 h2)) (by omega)]
  push_cast
  grind
theorem q16 {n : Int} (hn : 0 ≤ n ∧ n < 256) : PC Try.prog 7 [.int .u8 n] (.bool true) := by
  refine PC.of (.cons (.ground rfl) .nil) (.ground rfl) fun N hN => ?_
  obtain ⟨w, rfl⟩ : ∃ w : Nat, n = (w : Int) := ⟨n.toNat, by omega⟩
  have e0 : ((0 : Int) : Rat) = stp 0 := by unfold stp; rw [show ((0 : Nat) : Int) = 0 from rfl, Rat.zero_divInt]; rfl
  have w1 : IntKind.i64.wrap (w : Int) = w := wrap_i64 (by omega) (by omega)
  refine ACalls.of_code T.hm (n := 53) Try.func7 rfl rfl rfl rfl ?_; simp only [List.replicate_succ, List.replicate_zero, List.cons_append, List.nil_append]
  simp (maxSteps := 1000000) (disch := first | exact sd | fail) only [go_sem, Nat.reduceAdd, Nat.reduceSub, Nat.reduceLeDiff, ↓reduceIte, decide_eq_true_eq, if_true, if_false, Bool.false_eq_true, Int.lt_irrefl, implies_true, true_and, and_true, eq_self, and_self, beq_self_eq_true]
  refine PC.step (p76 (x := 0) (by omega)) fun m1 j1 => ?_
  try simp only [Heap.next_push, Heap.next_set, Heap.next_kill, next_bump, next_E0] at j1
  rw [e0]
  simp (maxSteps := 1000000) (disch := first | exact sd | fail) only [go_sem, Nat.reduceAdd, Nat.reduceSub, Nat.reduceLeDiff, ↓reduceIte, decide_eq_true_eq, if_true, if_false, Bool.false_eq_true, Int.lt_irrefl, implies_true, true_and, and_true, eq_self, and_self, beq_self_eq_true]
  refine aw_loopJ (σ := Nat) (fun k J => [.int .u8 w, J 1, .bool false, .pointer (some ⟨m1, 0, none⟩), .int .i64 (k + 1), J 5, J 6, J 7, J 8, J 9, J 10, J 11, J 12, J 13, J 14, J 15, J 16, J 17, J 18, J 19, J 20, J 21, J 22, J 23, J 24, J 25, J 26, J 27, J 28, J 29, J 30, J 31, J 32, J 33, J 34, J 35, J 36, J 37, J 38, J 39, J 40, J 41, J 42, J 43, J 44, J 45, J 46, J 47, J 48, J 49, J 50, J 51, J 52, J 53]) (fun i k H1 => i = w - k ∧ k ≤ w ∧ H1.get m1 = some (.row true 36 [.bool (sgn (stp k).num), Vv eU (lmb (stp k).num), .bool (sgn (stp k).den), Vv eU (lmb (stp k).den)]) ∧ m1 < H1.next) w 0 rfl ⟨rfl, Nat.zero_le _, by simp (maxSteps := 1000000) (disch := first | exact sd | fail) only [go_sem, Nat.reduceAdd, Nat.reduceSub, Nat.reduceLeDiff, ↓reduceIte, decide_eq_true_eq, if_true, if_false, Bool.false_eq_true, Int.lt_irrefl, implies_true, true_and, and_true, eq_self, and_self, beq_self_eq_true], by simp (maxSteps := 1000000) (disch := first | exact sd | fail) only [go_sem, Nat.reduceAdd, Nat.reduceSub, Nat.reduceLeDiff, ↓reduceIte, decide_eq_true_eq, if_true, if_false, Bool.false_eq_true, Int.lt_irrefl, implies_true, true_and, and_true, eq_self, and_self, beq_self_eq_true]; omega⟩ ?_
  rintro i k J H1 ⟨rfl, hk, hg, hlt⟩
  have lk : lq (stp k) ≤ 1 := lq_divInt (by omega) (ln_small (by omega)) (ln_small (by omega))
  by_cases h4 : (k : Int) + 1 ≤ w
  · have hp : 0 ≤ ((k : Int) + 1) * (k + 1 + 1) ∧ ((k : Int) + 1) * (k + 1 + 1) ≤ 256 * 257 := by
      have h1 : ((k : Int) + 1) * (k + 1 + 1) ≤ 256 * 257 := Int.mul_le_mul (by omega) (by omega) (by omega) (by omega)
      have h2 : 0 ≤ ((k : Int) + 1) * (k + 1 + 1) := Int.mul_nonneg (by omega) (by omega)
      exact ⟨h2, h1⟩
    have hne : ((k : Int) + 1) * (k + 1 + 1) ≠ 0 := Int.mul_ne_zero (by omega) (by omega)
    have es := stp_succ k
    have wp : IntKind.i64.wrap (((k : Int) + 1) * (k + 1 + 1)) = ((k : Int) + 1) * (k + 1 + 1) := wrap_i64 (by omega) (by omega)
    have lp : ln (((k : Int) + 1) * (k + 1 + 1)) ≤ 1 := ln_small (by omega)
    have l1 := ln_one
    generalize hP : ((k : Int) + 1) * (k + 1 + 1) = P at *
    have lr : lq (Rat.divInt 1 P) ≤ 1 := lq_divInt hne (by omega) (by omega)
    simp (maxSteps := 1000000) (disch := first | exact sd | fail) only [go_sem, Nat.reduceAdd, Nat.reduceSub, Nat.reduceLeDiff, ↓reduceIte, decide_eq_true_eq, if_true, if_false, Bool.false_eq_true, Int.lt_irrefl, implies_true, true_and, and_true, eq_self, and_self, beq_self_eq_true, w1, h4, hP, wp]
    refine PC.step (p53 (x := 1) (by omega)) fun m2 j2 => ?_
    try simp only [Heap.next_push, Heap.next_set, Heap.next_kill, next_bump, next_E0] at j2
    simp (maxSteps := 1000000) (disch := first | exact sd | fail) only [go_sem, Nat.reduceAdd, Nat.reduceSub, Nat.reduceLeDiff, ↓reduceIte, decide_eq_true_eq, if_true, if_false, Bool.false_eq_true, Int.lt_irrefl, implies_true, true_and, and_true, eq_self, and_self, beq_self_eq_true, w1, h4, hP, wp]
    refine PC.step (p53 (x := P) (by omega)) fun m3 j3 => ?_
    try simp only [Heap.next_push, Heap.next_set, Heap.next_kill, next_bump, next_E0] at j3
    simp (maxSteps := 1000000) (disch := first | exact sd | fail) only [go_sem, Nat.reduceAdd, Nat.reduceSub, Nat.reduceLeDiff, ↓reduceIte, decide_eq_true_eq, if_true, if_false, Bool.false_eq_true, Int.lt_irrefl, implies_true, true_and, and_true, eq_self, and_self, beq_self_eq_true]
    refine PC.step (p71 (n := sgn 1) (l := lmb 1) (m := sgn P) (k := lmb P) (lb_z (by omega)) (lb_z (by omega)) (by rw [den_z]; omega) (by rw [den_z]; omega) (by rw [den_z]; exact hne)) fun m4 j4 => ?_
    try simp only [Heap.next_push, Heap.next_set, Heap.next_kill, next_bump, next_E0] at j4
    rw [den_z, den_z]
    simp (maxSteps := 1000000) (disch := first | exact sd | fail) only [go_sem, Nat.reduceAdd, Nat.reduceSub, Nat.reduceLeDiff, ↓reduceIte, decide_eq_true_eq, if_true, if_false, Bool.false_eq_true, Int.lt_irrefl, implies_true, true_and, and_true, eq_self, and_self, beq_self_eq_true]
    refine PC.step (p45) fun m5 j5 => ?_
    try simp only [Heap.next_push, Heap.next_set, Heap.next_kill, next_bump, next_E0] at j5
    simp (maxSteps := 1000000) (disch := first | exact sd | fail) only [go_sem, Nat.reduceAdd, Nat.reduceSub, Nat.reduceLeDiff, ↓reduceIte, decide_eq_true_eq, if_true, if_false, Bool.false_eq_true, Int.lt_irrefl, implies_true, true_and, and_true, eq_self, and_self, beq_self_eq_true, ne_eq, not_true_eq_false, hg]
    refine PC.step (p78q (x := stp k) (y := Rat.divInt 1 P) (by omega) (by omega)) fun m6 j6 => ?_
    try simp only [Heap.next_push, Heap.next_set, Heap.next_kill, next_bump, next_E0] at j6
    rw [es]
    simp (maxSteps := 1000000) (disch := first | exact sd | fail) only [go_sem, Nat.reduceAdd, Nat.reduceSub, Nat.reduceLeDiff, ↓reduceIte, decide_eq_true_eq, if_true, if_false, Bool.false_eq_true, Int.lt_irrefl, implies_true, true_and, and_true, eq_self, and_self, beq_self_eq_true, hg]
    refine IJ_intro (k := w - (k + 1)) (by omega) (k + 1) ?_ ⟨rfl, by omega, by simp (maxSteps := 1000000) (disch := first | exact sd | fail) only [go_sem, Nat.reduceAdd, Nat.reduceSub, Nat.reduceLeDiff, ↓reduceIte, decide_eq_true_eq, if_true, if_false, Bool.false_eq_true, Int.lt_irrefl, implies_true, true_and, and_true, eq_self, and_self, beq_self_eq_true], by simp (maxSteps := 1000000) (disch := first | exact sd | fail) only [go_sem, Nat.reduceAdd, Nat.reduceSub, Nat.reduceLeDiff, ↓reduceIte, decide_eq_true_eq, if_true, if_false, Bool.false_eq_true, Int.lt_irrefl, implies_true, true_and, and_true, eq_self, and_self, beq_self_eq_true]; omega⟩
    simp only [Int.natCast_add, Int.natCast_one]
    rfl
  · have e : k = w := by omega
    subst e
    simp (maxSteps := 1000000) (disch := first | exact sd | fail) only [go_sem, Nat.reduceAdd, Nat.reduceSub, Nat.reduceLeDiff, ↓reduceIte, decide_eq_true_eq, if_true, if_false, Bool.false_eq_true, Int.lt_irrefl, implies_true, true_and, and_true, eq_self, and_self, beq_self_eq_true, w1, h4]
    refine PC.step (p53 (x := k) (by omega)) fun m2 j2 => ?_
    try simp only [Heap.next_push, Heap.next_set, Heap.next_kill, next_bump, next_E0] at j2
    simp (maxSteps := 1000000) (disch := first | exact sd | fail) only [go_sem, Nat.reduceAdd, Nat.reduceSub, Nat.reduceLeDiff, ↓reduceIte, decide_eq_true_eq, if_true, if_false, Bool.false_eq_true, Int.lt_irrefl, implies_true, true_and, and_true, eq_self, and_self, beq_self_eq_true, w1]
    refine PC.step (p53 (x := k + 1) (by omega)) fun m3 j3 => ?_
    try simp only [Heap.next_push, Heap.next_set, Heap.next_kill, next_bump, next_E0] at j3
    simp (maxSteps := 1000000) (disch := first | exact sd | fail) only [go_sem, Nat.reduceAdd, Nat.reduceSub, Nat.reduceLeDiff, ↓reduceIte, decide_eq_true_eq, if_true, if_false, Bool.false_eq_true, Int.lt_irrefl, implies_true, true_and, and_true, eq_self, and_self, beq_self_eq_true]
    refine PC.step (p71 (n := sgn k) (l := lmb k) (m := sgn (k + 1)) (k := lmb (k + 1)) (lb_z (Nat.le_trans (ln_small (by omega)) (by omega))) (lb_z (Nat.le_trans (ln_small (by omega)) (by omega))) (by rw [den_z]; exact Nat.le_trans (ln_small (by omega)) (by omega)) (by rw [den_z]; exact Nat.le_trans (ln_small (by omega)) (by omega)) (by rw [den_z]; omega)) fun m4 j4 => ?_
    try simp only [Heap.next_push, Heap.next_set, Heap.next_kill, next_bump, next_E0] at j4
    rw [den_z, den_z, show Rat.divInt (k : Int) ((k : Int) + 1) = stp k from rfl]
    simp (maxSteps := 1000000) (disch := first | exact sd | fail) only [go_sem, Nat.reduceAdd, Nat.reduceSub, Nat.reduceLeDiff, ↓reduceIte, decide_eq_true_eq, if_true, if_false, Bool.false_eq_true, Int.lt_irrefl, implies_true, true_and, and_true, eq_self, and_self, beq_self_eq_true]
    refine PC.step (p45) fun m5 j5 => ?_
    try simp only [Heap.next_push, Heap.next_set, Heap.next_kill, next_bump, next_E0] at j5
    simp (maxSteps := 1000000) (disch := first | exact sd | fail) only [go_sem, Nat.reduceAdd, Nat.reduceSub, Nat.reduceLeDiff, ↓reduceIte, decide_eq_true_eq, if_true, if_false, Bool.false_eq_true, Int.lt_irrefl, implies_true, true_and, and_true, eq_self, and_self, beq_self_eq_true, hg]
    refine PC.step (p75t (x := stp k) (by omega) rfl) fun m6 j6 => ?_
    try simp only [Heap.next_push, Heap.next_set, Heap.next_kill, next_bump, next_E0] at j6
    simp (maxSteps := 1000000) (disch := first | exact sd | fail) only [go_sem, Nat.reduceAdd, Nat.reduceSub, Nat.reduceLeDiff, ↓reduceIte, decide_eq_true_eq, if_true, if_false, Bool.false_eq_true, Int.lt_irrefl, implies_true, true_and, and_true, eq_self, and_self, beq_self_eq_true]
    refine PC.step (p70) fun m7 j7 => ?_
    try simp only [Heap.next_push, Heap.next_set, Heap.next_kill, next_bump, next_E0] at j7
    simp (maxSteps := 1000000) (disch := first | exact sd | fail) only [go_sem, Nat.reduceAdd, Nat.reduceSub, Nat.reduceLeDiff, ↓reduceIte, decide_eq_true_eq, if_true, if_false, Bool.false_eq_true, Int.lt_irrefl, implies_true, true_and, and_true, eq_self, and_self, beq_self_eq_true]
    exact .rfl
theorem lawRatSteps {H : Heap} {xs : List Value} (hf : ∀ b, H.next ≤ b → H.get b = none) (hg : GoodArgs Try.prog H 8 [5] xs) : ACalls Try.prog 7 xs H fun v _ => v = .bool true := by
  obtain ⟨ps, h1, h2, h3⟩ := args_frz hf (by intro t ht; simp only [List.mem_cons, List.not_mem_nil, or_false] at ht; subst ht; kernel_rfl) hg
  obtain ⟨p, ps, rfl, h4, h5⟩ := h3.cons
  obtain rfl := h5.nil
  obtain ⟨n, rfl, hn⟩ := h4.int Try.underlying5
  exact (q16 (wf_u8 hn)).law h1
end Go.Abs
