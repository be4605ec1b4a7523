/- TemplCounts, on values. -/
import Derived.Test.YtfadclnaahanmaaM8
import Derived.Test.YtfadclnaahanmaaM5
set_option linter.unusedVariables false
set_option linter.unusedSimpArgs false
namespace Go.Abs
open Go Go.Proofs
set_option maxRecDepth 100000
set_option maxHeartbeats 40000000
theorem counts {w : Nat} (hw : w ≤ 6) : ∃ p : Nat, (w : Int) * ((w : Int) - 1) = p ∧ 2 * (w : Int) * ((w : Int) - 1) = (2 * p : Nat) ∧ p ≤ 30 ∧ ((sgl w).take 40).length = 2 * w ∧ ((sgl w ++ dif w).take 40).length = min (2 * w + p) 40 ∧ ((sgl w ++ bth w).take 40).length = min (2 * w + 2 * p) 40 := by
  have : w = 0 ∨ w = 1 ∨ w = 2 ∨ w = 3 ∨ w = 4 ∨ w = 5 ∨ w = 6 := by omega
  rcases this with rfl | rfl | rfl | rfl | rfl | rfl | rfl
  · exact ⟨0, rfl, rfl, by decide, rfl, rfl, rfl⟩
  · exact ⟨0, rfl, rfl, by decide, rfl, rfl, rfl⟩
  · exact ⟨2, rfl, rfl, by decide, rfl, rfl, rfl⟩
  · exact ⟨6, rfl, rfl, by decide, rfl, rfl, rfl⟩
  · exact ⟨12, rfl, rfl, by decide, rfl, rfl, rfl⟩
  · exact ⟨20, rfl, rfl, by decide, rfl, rfl, rfl⟩
  · exact ⟨30, rfl, rfl, by decide, rfl, rfl, rfl⟩
theorem q33 {k : Int} (hk : 0 ≤ k ∧ k < 256) : PC Try.prog 4 [.int .u8 k] (.bool true) := by
  refine PC.of (.cons (.ground rfl) .nil) (.ground rfl) fun N hN => ?_
  obtain ⟨w, hw⟩ : ∃ w : Nat, k.tmod 7 = (w : Int) := ⟨(k.tmod 7).toNat, by have := Int.tmod_nonneg 7 hk.1; omega⟩
  have hw6 : w ≤ 6 := by have := Int.tmod_lt_of_pos k (show (0 : Int) < 7 by decide); omega
  have w1 : IntKind.i64.wrap k = k := wrap_i64 (by omega) (by omega)
  obtain ⟨p, e1, e2, hp, ls, lz, lo⟩ := counts hw6
  have s1 : slt (w : Int) = w := by unfold slt; omega
  have s2 : slt (-1 - (w : Int)) = 0 := by unfold slt; omega
  have s3 : slt (7 + (w : Int)) = 6 := by unfold slt; omega
  have s4 : slt 6 = 6 := by decide
  have a1 := p124 (n := (w : Int))
  have a2 := p126 (n := (w : Int))
  have a3 := p128 (n := (w : Int))
  have a4 := p124 (n := -1 - (w : Int))
  have a5 := p126 (n := 7 + (w : Int))
  have a6 := p126 (n := 6)
  rw [s1] at a1 a2 a3
  rw [s2] at a4
  rw [s3] at a5
  rw [s4] at a6
  have l4 : ((sgl 0).take 40).length = 0 := rfl
  generalize (sgl w).take 40 = A at *
  generalize (sgl w ++ dif w).take 40 = B at *
  generalize (sgl w ++ bth w).take 40 = C at *
  generalize (sgl 0).take 40 = D at *
  generalize (sgl 6 ++ dif 6).take 40 = E at *
  have f1 : (A.length : Int) = 2 * (w : Int) := by omega
  have f2 : (if (40 : Int) < 2 * (w : Int) + (p : Int) then (40 : Int) else 2 * (w : Int) + (p : Int)) = B.length := by split <;> omega
  have f3 : (if (40 : Int) < 2 * (w : Int) + ((2 * p : Nat) : Int) then (40 : Int) else 2 * (w : Int) + ((2 * p : Nat) : Int)) = C.length := by split <;> omega
  have f4 : (D.length : Int) = 0 := by omega
  unfold Tv at a1 a2 a3 a4 a5 a6
  refine ACalls.of_code T.hm (n := 66) Try.func4 rfl rfl rfl rfl ?_; simp only [List.replicate_succ, List.replicate_zero, List.cons_append, List.nil_append]
  simp (maxSteps := 1000000) (disch := first | exact sd | fail) only [go_sem, Nat.reduceAdd, Nat.reduceSub, Nat.reduceLeDiff, ↓reduceIte, decide_eq_true_eq, if_true, if_false, Bool.false_eq_true, Int.lt_irrefl, implies_true, true_and, and_true, eq_self, and_self, beq_self_eq_true, w1, hw]
  refine PC.step (a1) fun m1 j1 => ?_
  try simp only [Heap.next_push, Heap.next_set, Heap.next_kill, next_bump, next_E0] at j1
  simp (maxSteps := 1000000) (disch := first | exact sd | fail) only [go_sem, Nat.reduceAdd, Nat.reduceSub, Nat.reduceLeDiff, ↓reduceIte, decide_eq_true_eq, if_true, if_false, Bool.false_eq_true, Int.lt_irrefl, implies_true, true_and, and_true, eq_self, and_self, beq_self_eq_true, f1]
  refine PC.step (a2) fun m2 j2 => ?_
  try simp only [Heap.next_push, Heap.next_set, Heap.next_kill, next_bump, next_E0] at j2
  simp (maxSteps := 1000000) (disch := first | exact sd | fail) only [go_sem, Nat.reduceAdd, Nat.reduceSub, Nat.reduceLeDiff, ↓reduceIte, decide_eq_true_eq, if_true, if_false, Bool.false_eq_true, Int.lt_irrefl, implies_true, true_and, and_true, eq_self, and_self, beq_self_eq_true, f1, e1, f2]
  refine PC.step (a3) fun m3 j3 => ?_
  try simp only [Heap.next_push, Heap.next_set, Heap.next_kill, next_bump, next_E0] at j3
  simp (maxSteps := 1000000) (disch := first | exact sd | fail) only [go_sem, Nat.reduceAdd, Nat.reduceSub, Nat.reduceLeDiff, ↓reduceIte, decide_eq_true_eq, if_true, if_false, Bool.false_eq_true, Int.lt_irrefl, implies_true, true_and, and_true, eq_self, and_self, beq_self_eq_true, e2, f3]
  refine PC.step (a4) fun m4 j4 => ?_
  try simp only [Heap.next_push, Heap.next_set, Heap.next_kill, next_bump, next_E0] at j4
  simp (maxSteps := 1000000) (disch := first | exact sd | fail) only [go_sem, Nat.reduceAdd, Nat.reduceSub, Nat.reduceLeDiff, ↓reduceIte, decide_eq_true_eq, if_true, if_false, Bool.false_eq_true, Int.lt_irrefl, implies_true, true_and, and_true, eq_self, and_self, beq_self_eq_true, f4]
  refine PC.step (a5) fun m5 j5 => ?_
  try simp only [Heap.next_push, Heap.next_set, Heap.next_kill, next_bump, next_E0] at j5
  simp (maxSteps := 1000000) (disch := first | exact sd | fail) only [go_sem, Nat.reduceAdd, Nat.reduceSub, Nat.reduceLeDiff, ↓reduceIte, decide_eq_true_eq, if_true, if_false, Bool.false_eq_true, Int.lt_irrefl, implies_true, true_and, and_true, eq_self, and_self, beq_self_eq_true]
  refine PC.step (a6) fun m6 j6 => ?_
  try simp only [Heap.next_push, Heap.next_set, Heap.next_kill, next_bump, next_E0] at j6
  simp (maxSteps := 1000000) (disch := first | exact sd | fail) only [go_sem, Nat.reduceAdd, Nat.reduceSub, Nat.reduceLeDiff, ↓reduceIte, decide_eq_true_eq, if_true, if_false, Bool.false_eq_true, Int.lt_irrefl, implies_true, true_and, and_true, eq_self, and_self, beq_self_eq_true]
  refine PC.step (p130) fun m7 j7 => ?_
  try simp only [Heap.next_push, Heap.next_set, Heap.next_kill, next_bump, next_E0] at j7
  simp (maxSteps := 1000000) (disch := first | exact sd | fail) only [go_sem, Nat.reduceAdd, Nat.reduceSub, Nat.reduceLeDiff, ↓reduceIte, decide_eq_true_eq, if_true, if_false, Bool.false_eq_true, Int.lt_irrefl, implies_true, true_and, and_true, eq_self, and_self, beq_self_eq_true]
  exact .rfl
theorem lawTemplCounts {H : Heap} {xs : List Value} (hf : ∀ b, H.next ≤ b → H.get b = none) (hg : GoodArgs Try.prog H 8 [5] xs) : ACalls Try.prog 4 xs H fun v _ => v = .bool true := by
  obtain ⟨ps, h1, h2, h3⟩ := args_frz hf (by intro t ht; simp only [List.mem_cons, List.not_mem_nil, or_false] at ht; subst ht; kernel_rfl) hg
  obtain ⟨p0, ps0, rfl, a0, r0⟩ := h3.cons
  obtain ⟨n, rfl, hn⟩ := a0.int Try.underlying5
  obtain rfl := r0.nil
  exact (q33 (wf_u8 hn)).law h1
end Go.Abs
