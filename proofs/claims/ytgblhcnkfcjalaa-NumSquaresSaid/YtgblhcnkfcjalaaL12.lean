/- NumSquares, on values. -/
import Derived.Test.YtgblhcnkfcjalaaQ5
set_option linter.unusedVariables false
set_option linter.unusedSimpArgs false
namespace Go.Abs
open Go Go.Proofs
set_option maxRecDepth 100000
set_option maxHeartbeats 40000000


def pl12_3 : Plan := ⟨[0, 1, 3, 4, 7, 8, 10, 11], [(2, [11, 10, 8, 7, 4, 3], []), (5, [11, 10, 8, 7], []), (6, [11, 10, 8, 7], []), (9, [11, 10], []), (12, [], []), (13, [], []), (14, [], [15])]⟩
def pl12_5 : Plan := ⟨[0, 1, 3, 9, 10], [(2, [3], []), (4, [], [5, 6, 7, 8]), (11, [], []), (12, [], [13])]⟩
theorem q12 {n1 n2 : Bool} {l1 l2 : List Int} (k1 : Lim l1) (k2 : Lim l2) : PC Try.prog 12 [In n1 l1, In n2 l2] (.bool true) := by
  refine PC.of (.cons pu_in (.cons pu_in .nil)) (.ground rfl) fun N hN => ?_
  refine ACalls.of_code T.hm (n := 76) Try.func12 rfl rfl rfl rfl ?_; simp only [List.replicate_succ, List.replicate_zero, List.cons_append, List.nil_append]
  simp (maxSteps := 1000000) (disch := first | exact sd | fail) only [go_sem, Nat.reduceAdd, Nat.reduceSub, Nat.reduceLeDiff, ↓reduceIte, decide_eq_true_eq, if_true, if_false, Bool.false_eq_true, Int.lt_irrefl, implies_true, true_and, and_true, eq_self, and_self, beq_self_eq_true, aw_plan (id := 3) pl12_3, pl12_3, aw_plan (id := 5) pl12_5, pl12_5]
  refine PC.peek1 (es := 2) (own := true) (el := 24) (cells := [.bool n1, Vv eU l1, .bool n2, Vv eU l2]) (by simp (maxSteps := 1000000) (disch := first | exact sd | fail) only [go_sem, Nat.reduceAdd, Nat.reduceSub, Nat.reduceLeDiff, ↓reduceIte, decide_eq_true_eq, if_true, if_false, Bool.false_eq_true, Int.lt_irrefl, implies_true, true_and, and_true, eq_self, and_self, beq_self_eq_true, aw_plan (id := 3) pl12_3, pl12_3, aw_plan (id := 5) pl12_5, pl12_5]) (by simp (maxSteps := 1000000) (disch := first | exact sd | fail) only [go_sem, Nat.reduceAdd, Nat.reduceSub, Nat.reduceLeDiff, ↓reduceIte, decide_eq_true_eq, if_true, if_false, Bool.false_eq_true, Int.lt_irrefl, implies_true, true_and, and_true, eq_self, and_self, beq_self_eq_true, aw_plan (id := 3) pl12_3, pl12_3, aw_plan (id := 5) pl12_5, pl12_5]; omega) (.inr (by unfold unk; omega)) (by decide) (.inr T.s24) rfl (p40 (ls := [⟨n1, l1⟩, ⟨n2, l2⟩]) (by simp)) rfl ?_
  simp only [List.any_cons, List.any_nil, Bool.or_false]
  by_cases big : 40 < l1.length ∨ 40 < l2.length
  · have hb : (decide (40 < l1.length) || decide (40 < l2.length)) = true := by simpa using big
    rw [hb]
    simp (maxSteps := 1000000) (disch := first | exact sd | fail) only [go_sem, Nat.reduceAdd, Nat.reduceSub, Nat.reduceLeDiff, ↓reduceIte, decide_eq_true_eq, if_true, if_false, Bool.false_eq_true, Int.lt_irrefl, implies_true, true_and, and_true, eq_self, and_self, beq_self_eq_true, aw_plan (id := 3) pl12_3, pl12_3, aw_plan (id := 5) pl12_5, pl12_5]
    refine PC.step (p41) fun m1 j1 => ?_
    try simp only [Heap.next_push, Heap.next_set, Heap.next_kill, next_bump, next_E0] at j1
    simp (maxSteps := 1000000) (disch := first | exact sd | fail) only [go_sem, Nat.reduceAdd, Nat.reduceSub, Nat.reduceLeDiff, ↓reduceIte, decide_eq_true_eq, if_true, if_false, Bool.false_eq_true, Int.lt_irrefl, implies_true, true_and, and_true, eq_self, and_self, beq_self_eq_true, aw_plan (id := 3) pl12_3, pl12_3, aw_plan (id := 5) pl12_5, pl12_5]
    exact .rfl
  have hb : (decide (40 < l1.length) || decide (40 < l2.length)) = false := by
    rw [Bool.or_eq_false_iff]; exact ⟨by simp; omega, by simp; omega⟩
  rw [hb]
  by_cases g1 : (12 : Int) < l1.length
  · simp (maxSteps := 1000000) (disch := first | exact sd | fail) only [go_sem, Nat.reduceAdd, Nat.reduceSub, Nat.reduceLeDiff, ↓reduceIte, decide_eq_true_eq, if_true, if_false, Bool.false_eq_true, Int.lt_irrefl, implies_true, true_and, and_true, eq_self, and_self, beq_self_eq_true, aw_plan (id := 3) pl12_3, pl12_3, aw_plan (id := 5) pl12_5, pl12_5, g1]
    refine PC.step (p41) fun m1 j1 => ?_
    try simp only [Heap.next_push, Heap.next_set, Heap.next_kill, next_bump, next_E0] at j1
    simp (maxSteps := 1000000) (disch := first | exact sd | fail) only [go_sem, Nat.reduceAdd, Nat.reduceSub, Nat.reduceLeDiff, ↓reduceIte, decide_eq_true_eq, if_true, if_false, Bool.false_eq_true, Int.lt_irrefl, implies_true, true_and, and_true, eq_self, and_self, beq_self_eq_true, aw_plan (id := 3) pl12_3, pl12_3, aw_plan (id := 5) pl12_5, pl12_5]
    exact .rfl
  by_cases g2 : (12 : Int) < l2.length
  · simp (maxSteps := 1000000) (disch := first | exact sd | fail) only [go_sem, Nat.reduceAdd, Nat.reduceSub, Nat.reduceLeDiff, ↓reduceIte, decide_eq_true_eq, if_true, if_false, Bool.false_eq_true, Int.lt_irrefl, implies_true, true_and, and_true, eq_self, and_self, beq_self_eq_true, aw_plan (id := 3) pl12_3, pl12_3, aw_plan (id := 5) pl12_5, pl12_5, g1, g2]
    refine PC.step (p41) fun m1 j1 => ?_
    try simp only [Heap.next_push, Heap.next_set, Heap.next_kill, next_bump, next_E0] at j1
    simp (maxSteps := 1000000) (disch := first | exact sd | fail) only [go_sem, Nat.reduceAdd, Nat.reduceSub, Nat.reduceLeDiff, ↓reduceIte, decide_eq_true_eq, if_true, if_false, Bool.false_eq_true, Int.lt_irrefl, implies_true, true_and, and_true, eq_self, and_self, beq_self_eq_true, aw_plan (id := 3) pl12_3, pl12_3, aw_plan (id := 5) pl12_5, pl12_5]
    exact .rfl
  have b1 : Lb l1 := ⟨k1, by omega⟩
  have b2 : Lb l2 := ⟨k2, by omega⟩
  have lA : ln (den n1 l1) ≤ 12 := by have := ln_den (n := n1) k1; omega
  have lB : ln (den n2 l2) ≤ 12 := by have := ln_den (n := n2) k2; omega
  simp (maxSteps := 1000000) (disch := first | exact sd | fail) only [go_sem, Nat.reduceAdd, Nat.reduceSub, Nat.reduceLeDiff, ↓reduceIte, decide_eq_true_eq, if_true, if_false, Bool.false_eq_true, Int.lt_irrefl, implies_true, true_and, and_true, eq_self, and_self, beq_self_eq_true, aw_plan (id := 3) pl12_3, pl12_3, aw_plan (id := 5) pl12_5, pl12_5, g1, g2]
  have q60 := p60 (n := n1) (m := n2) b1 b2
  have q61 := p61 (n := n1) (m := n2) b1 b2
  have q54 := p54 (n := n1) (m := n2) b1 b2
  have qaa := p54 (n := n1) (m := n1) b1 b1
  have qbb := p54 (n := n2) (m := n2) b2 b2
  have q42 := fun (c : Int) (hc : ln c ≤ 2 ^ 39) (h0 : den n2 l2 ≠ 0) => p42 (n := sgn c) (l := lmb c) (m := n2) (lb_z (by omega)) b2 (by rw [den_z]; exact hc) (by omega) h0
  have q42z := fun (c : Int) (hc : ln c ≤ 2 ^ 39) (h0 : den n2 l2 = 0) => p42z (n := sgn c) (l := lmb c) (m := n2) (lb_z (by omega)) b2 h0
  have q55n := fun (H : Heap) (K : Value → Heap → Prop) => s55n (H := H) (K := K) (n := n2) b2
  have q55 := fun (c : Int) (hc : ln c ≤ 2 ^ 39) => p55 (n := sgn c) (l := lmb c) (m := n1) (lb_z (by omega)) b1
  generalize den n1 l1 = A at *
  generalize den n2 l2 = B at *
  have e1 := ln_add A B
  have e2 := ln_sub A B
  have e3 := ln_mul A A
  have e4 := ln_mul B B
  have e5 := ln_mul A B
  have e6 := ln_mul (A + B) (A - B)
  have e7 := ln_sub (A * A) (B * B)
  refine PC.step (q60) fun m1 j1 => ?_
  try simp only [Heap.next_push, Heap.next_set, Heap.next_kill, next_bump, next_E0] at j1
  simp (maxSteps := 1000000) (disch := first | exact sd | fail) only [go_sem, Nat.reduceAdd, Nat.reduceSub, Nat.reduceLeDiff, ↓reduceIte, decide_eq_true_eq, if_true, if_false, Bool.false_eq_true, Int.lt_irrefl, implies_true, true_and, and_true, eq_self, and_self, beq_self_eq_true, aw_plan (id := 3) pl12_3, pl12_3, aw_plan (id := 5) pl12_5, pl12_5]
  refine PC.step (q61) fun m2 j2 => ?_
  try simp only [Heap.next_push, Heap.next_set, Heap.next_kill, next_bump, next_E0] at j2
  simp (maxSteps := 1000000) (disch := first | exact sd | fail) only [go_sem, Nat.reduceAdd, Nat.reduceSub, Nat.reduceLeDiff, ↓reduceIte, decide_eq_true_eq, if_true, if_false, Bool.false_eq_true, Int.lt_irrefl, implies_true, true_and, and_true, eq_self, and_self, beq_self_eq_true, aw_plan (id := 3) pl12_3, pl12_3, aw_plan (id := 5) pl12_5, pl12_5]
  refine PC.step (p54 (lb_z (by omega)) (lb_z (by omega))) fun m3 j3 => ?_
  try simp only [Heap.next_push, Heap.next_set, Heap.next_kill, next_bump, next_E0] at j3
  simp (maxSteps := 1000000) (disch := first | exact sd | fail) only [go_sem, Nat.reduceAdd, Nat.reduceSub, Nat.reduceLeDiff, ↓reduceIte, decide_eq_true_eq, if_true, if_false, Bool.false_eq_true, Int.lt_irrefl, implies_true, true_and, and_true, eq_self, and_self, beq_self_eq_true, aw_plan (id := 3) pl12_3, pl12_3, aw_plan (id := 5) pl12_5, pl12_5]
  refine PC.step (qaa) fun m4 j4 => ?_
  try simp only [Heap.next_push, Heap.next_set, Heap.next_kill, next_bump, next_E0] at j4
  simp (maxSteps := 1000000) (disch := first | exact sd | fail) only [go_sem, Nat.reduceAdd, Nat.reduceSub, Nat.reduceLeDiff, ↓reduceIte, decide_eq_true_eq, if_true, if_false, Bool.false_eq_true, Int.lt_irrefl, implies_true, true_and, and_true, eq_self, and_self, beq_self_eq_true, aw_plan (id := 3) pl12_3, pl12_3, aw_plan (id := 5) pl12_5, pl12_5]
  refine PC.step (qbb) fun m5 j5 => ?_
  try simp only [Heap.next_push, Heap.next_set, Heap.next_kill, next_bump, next_E0] at j5
  simp (maxSteps := 1000000) (disch := first | exact sd | fail) only [go_sem, Nat.reduceAdd, Nat.reduceSub, Nat.reduceLeDiff, ↓reduceIte, decide_eq_true_eq, if_true, if_false, Bool.false_eq_true, Int.lt_irrefl, implies_true, true_and, and_true, eq_self, and_self, beq_self_eq_true, aw_plan (id := 3) pl12_3, pl12_3, aw_plan (id := 5) pl12_5, pl12_5]
  refine PC.step (p61 (lb_z (by omega)) (lb_z (by omega))) fun m6 j6 => ?_
  try simp only [Heap.next_push, Heap.next_set, Heap.next_kill, next_bump, next_E0] at j6
  simp (maxSteps := 1000000) (disch := first | exact sd | fail) only [go_sem, Nat.reduceAdd, Nat.reduceSub, Nat.reduceLeDiff, ↓reduceIte, decide_eq_true_eq, if_true, if_false, Bool.false_eq_true, Int.lt_irrefl, implies_true, true_and, and_true, eq_self, and_self, beq_self_eq_true, aw_plan (id := 3) pl12_3, pl12_3, aw_plan (id := 5) pl12_5, pl12_5]
  refine PC.step (p44t (by omega) (by grind)) fun m7 j7 => ?_
  try simp only [Heap.next_push, Heap.next_set, Heap.next_kill, next_bump, next_E0] at j7
  simp (maxSteps := 1000000) (disch := first | exact sd | fail) only [go_sem, Nat.reduceAdd, Nat.reduceSub, Nat.reduceLeDiff, ↓reduceIte, decide_eq_true_eq, if_true, if_false, Bool.false_eq_true, Int.lt_irrefl, implies_true, true_and, and_true, eq_self, and_self, beq_self_eq_true, aw_plan (id := 3) pl12_3, pl12_3, aw_plan (id := 5) pl12_5, pl12_5]
  refine PC.step (q54) fun m8 j8 => ?_
  try simp only [Heap.next_push, Heap.next_set, Heap.next_kill, next_bump, next_E0] at j8
  simp (maxSteps := 1000000) (disch := first | exact sd | fail) only [go_sem, Nat.reduceAdd, Nat.reduceSub, Nat.reduceLeDiff, ↓reduceIte, decide_eq_true_eq, if_true, if_false, Bool.false_eq_true, Int.lt_irrefl, implies_true, true_and, and_true, eq_self, and_self, beq_self_eq_true, aw_plan (id := 3) pl12_3, pl12_3, aw_plan (id := 5) pl12_5, pl12_5]
  by_cases hB : B = 0
  · refine PC.step (q42z (A * B) (by omega) hB) fun m9 j9 => ?_
    try simp only [Heap.next_push, Heap.next_set, Heap.next_kill, next_bump, next_E0] at j9
    simp (maxSteps := 1000000) (disch := first | exact sd | fail) only [go_sem, Nat.reduceAdd, Nat.reduceSub, Nat.reduceLeDiff, ↓reduceIte, decide_eq_true_eq, if_true, if_false, Bool.false_eq_true, Int.lt_irrefl, implies_true, true_and, and_true, eq_self, and_self, beq_self_eq_true, aw_plan (id := 3) pl12_3, pl12_3, aw_plan (id := 5) pl12_5, pl12_5]
    refine q55n _ _ fun m10 j10 => ?_
    try simp only [Heap.next_push, Heap.next_set, Heap.next_kill, next_bump, next_E0] at j10
    simp (maxSteps := 1000000) (disch := first | exact sd | fail) only [go_sem, Nat.reduceAdd, Nat.reduceSub, Nat.reduceLeDiff, ↓reduceIte, decide_eq_true_eq, if_true, if_false, Bool.false_eq_true, Int.lt_irrefl, implies_true, true_and, and_true, eq_self, and_self, beq_self_eq_true, aw_plan (id := 3) pl12_3, pl12_3, aw_plan (id := 5) pl12_5, pl12_5, hB]
    refine PC.step (p45) fun m11 j11 => ?_
    try simp only [Heap.next_push, Heap.next_set, Heap.next_kill, next_bump, next_E0] at j11
    simp (maxSteps := 1000000) (disch := first | exact sd | fail) only [go_sem, Nat.reduceAdd, Nat.reduceSub, Nat.reduceLeDiff, ↓reduceIte, decide_eq_true_eq, if_true, if_false, Bool.false_eq_true, Int.lt_irrefl, implies_true, true_and, and_true, eq_self, and_self, beq_self_eq_true, aw_plan (id := 3) pl12_3, pl12_3, aw_plan (id := 5) pl12_5, pl12_5]
    refine PC.step (p41) fun m12 j12 => ?_
    try simp only [Heap.next_push, Heap.next_set, Heap.next_kill, next_bump, next_E0] at j12
    simp (maxSteps := 1000000) (disch := first | exact sd | fail) only [go_sem, Nat.reduceAdd, Nat.reduceSub, Nat.reduceLeDiff, ↓reduceIte, decide_eq_true_eq, if_true, if_false, Bool.false_eq_true, Int.lt_irrefl, implies_true, true_and, and_true, eq_self, and_self, beq_self_eq_true, aw_plan (id := 3) pl12_3, pl12_3, aw_plan (id := 5) pl12_5, pl12_5]
    exact .rfl
  · refine PC.step (q42 (A * B) (by omega) hB) fun m9 j9 => ?_
    try simp only [Heap.next_push, Heap.next_set, Heap.next_kill, next_bump, next_E0] at j9
    have f1 : (A * B).tdiv B = A := Int.mul_tdiv_cancel _ hB
    have f2 : (A * B).tmod B = 0 := Int.mul_tmod_left _ _
    have f3 : ¬ sg B = 0 := fun h => hB (sg_eq0.1 h)
    simp (maxSteps := 1000000) (disch := first | exact sd | fail) only [go_sem, Nat.reduceAdd, Nat.reduceSub, Nat.reduceLeDiff, ↓reduceIte, decide_eq_true_eq, if_true, if_false, Bool.false_eq_true, Int.lt_irrefl, implies_true, true_and, and_true, eq_self, and_self, beq_self_eq_true, aw_plan (id := 3) pl12_3, pl12_3, aw_plan (id := 5) pl12_5, pl12_5, f1, f2]
    refine q55n _ _ fun m10 j10 => ?_
    try simp only [Heap.next_push, Heap.next_set, Heap.next_kill, next_bump, next_E0] at j10
    simp (maxSteps := 1000000) (disch := first | exact sd | fail) only [go_sem, Nat.reduceAdd, Nat.reduceSub, Nat.reduceLeDiff, ↓reduceIte, decide_eq_true_eq, if_true, if_false, Bool.false_eq_true, Int.lt_irrefl, implies_true, true_and, and_true, eq_self, and_self, beq_self_eq_true, aw_plan (id := 3) pl12_3, pl12_3, aw_plan (id := 5) pl12_5, pl12_5, f3]
    refine PC.step (p45) fun m11 j11 => ?_
    try simp only [Heap.next_push, Heap.next_set, Heap.next_kill, next_bump, next_E0] at j11
    simp (maxSteps := 1000000) (disch := first | exact sd | fail) only [go_sem, Nat.reduceAdd, Nat.reduceSub, Nat.reduceLeDiff, ↓reduceIte, decide_eq_true_eq, if_true, if_false, Bool.false_eq_true, Int.lt_irrefl, implies_true, true_and, and_true, eq_self, and_self, beq_self_eq_true, aw_plan (id := 3) pl12_3, pl12_3, aw_plan (id := 5) pl12_5, pl12_5]
    refine PC.step (q55 A (by omega)) fun m12 j12 => ?_
    try simp only [Heap.next_push, Heap.next_set, Heap.next_kill, next_bump, next_E0] at j12
    simp (maxSteps := 1000000) (disch := first | exact sd | fail) only [go_sem, Nat.reduceAdd, Nat.reduceSub, Nat.reduceLeDiff, ↓reduceIte, decide_eq_true_eq, if_true, if_false, Bool.false_eq_true, Int.lt_irrefl, implies_true, true_and, and_true, eq_self, and_self, beq_self_eq_true, aw_plan (id := 3) pl12_3, pl12_3, aw_plan (id := 5) pl12_5, pl12_5, Int.sub_self, lmb_zero, ln_zero, List.length_nil]
    refine PC.step (p41) fun m13 j13 => ?_
    try simp only [Heap.next_push, Heap.next_set, Heap.next_kill, next_bump, next_E0] at j13
    simp (maxSteps := 1000000) (disch := first | exact sd | fail) only [go_sem, Nat.reduceAdd, Nat.reduceSub, Nat.reduceLeDiff, ↓reduceIte, decide_eq_true_eq, if_true, if_false, Bool.false_eq_true, Int.lt_irrefl, implies_true, true_and, and_true, eq_self, and_self, beq_self_eq_true, aw_plan (id := 3) pl12_3, pl12_3, aw_plan (id := 5) pl12_5, pl12_5]
    exact .rfl

theorem lawNumSquares {H : Heap} {xs : List Value} (hf : ∀ b, H.next ≤ b → H.get b = none) (hg : GoodArgs Try.prog H 8 [24, 24] xs) : ACalls Try.prog 12 xs H fun v _ => v = .bool true := by
  obtain ⟨ps, h1, h2, h3⟩ := args_frz hf (by intro t ht; simp only [List.mem_cons, List.not_mem_nil, or_false] at ht; rcases ht with rfl | rfl <;> kernel_rfl) hg
  obtain ⟨p0, ps0, rfl, a0, r0⟩ := h3.cons
  obtain ⟨n0, l0, rfl, k0, _⟩ := a0.num
  obtain ⟨p1, ps1, rfl, a1, r1⟩ := r0.cons
  obtain ⟨n1, l1, rfl, k1, _⟩ := a1.num
  obtain rfl := r1.nil
  exact (q12 k0 k1).law h1
end Go.Abs
