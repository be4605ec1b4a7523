/- NumGcds, on values. -/
import Derived.Test.YtgblhcnkfcjalaaQ5
set_option linter.unusedVariables false
set_option linter.unusedSimpArgs false
namespace Go.Abs
open Go Go.Proofs
set_option maxRecDepth 100000
set_option maxHeartbeats 40000000

def pl5_3 : Plan := ⟨[0, 1, 3, 4, 5, 10], [(2, [4, 3], []), (6, [3], []), (7, [3], []), (8, [], []), (9, [], []), (11, [], [])]⟩
def pl5_4 : Plan := ⟨[0, 1, 2, 6], [(3, [0], []), (4, [0], []), (5, [], []), (7, [], [])]⟩
def pl5_5 : Plan := ⟨[0, 1, 3, 4, 7], [(2, [7, 4, 3], []), (5, [7], []), (6, [7], []), (8, [], [9, 10, 11, 13, 14]), (12, [14, 13], []), (15, [], []), (16, [], [17, 18, 19, 20, 21, 24]), (22, [24, 19], []), (23, [24], []), (25, [], [26, 27]), (28, [], [29, 30])]⟩
theorem ln_gcd' {A B : Int} {K : Nat} (hA : ln A ≤ K) (hB : ln B ≤ K) : ln (Int.gcd A B : Int) ≤ K := by
  by_cases h : A = 0
  · rw [h]; simp; exact Nat.le_trans (ln_mono (by omega)) hB
  · exact Nat.le_trans (ln_mono (by have := Int.gcd_le_natAbs_left B h; omega)) hA
theorem gcd_times (A B C : Int) : (Int.gcd (A * C) (B * C) : Int) = Int.gcd A B * (C * sg C) := by
  rw [Int.gcd_mul_right, mul_sg]; simp
theorem gcd_mult (A B : Int) : (Int.gcd A (A * B) : Int) = A * sg A := by
  rw [mul_sg]; simp

theorem q5 {n1 n2 n3 : Bool} {l1 l2 l3 : List Int} (k1 : Lim l1) (k2 : Lim l2) (k3 : Lim l3) : PC Try.prog 5 [In n1 l1, In n2 l2, In n3 l3] (.bool true) := by
  refine PC.of (.cons pu_in (.cons pu_in (.cons pu_in .nil))) (.ground rfl) fun N hN => ?_
  refine ACalls.of_code T.hm (n := 69) Try.func5 rfl rfl rfl rfl ?_; simp only [List.replicate_succ, List.replicate_zero, List.cons_append, List.nil_append]
  by_cases g1 : (8 : Int) < l1.length
  · simp (maxSteps := 1000000) (disch := first | exact sd | fail) only [go_sem, Nat.reduceAdd, Nat.reduceSub, Nat.reduceLeDiff, ↓reduceIte, decide_eq_true_eq, if_true, if_false, Bool.false_eq_true, Int.lt_irrefl, implies_true, true_and, and_true, eq_self, and_self, beq_self_eq_true, aw_plan (id := 3) pl5_3, pl5_3, aw_plan (id := 4) pl5_4, pl5_4, aw_plan (id := 5) pl5_5, pl5_5, g1]
    refine PC.step (p41) fun m1 j1 => ?_
    try simp only [Heap.next_push, Heap.next_set, Heap.next_kill, next_bump, next_E0] at j1
    simp (maxSteps := 1000000) (disch := first | exact sd | fail) only [go_sem, Nat.reduceAdd, Nat.reduceSub, Nat.reduceLeDiff, ↓reduceIte, decide_eq_true_eq, if_true, if_false, Bool.false_eq_true, Int.lt_irrefl, implies_true, true_and, and_true, eq_self, and_self, beq_self_eq_true, aw_plan (id := 3) pl5_3, pl5_3, aw_plan (id := 4) pl5_4, pl5_4, aw_plan (id := 5) pl5_5, pl5_5]
    exact .rfl
  by_cases g2 : (8 : Int) < l2.length
  · simp (maxSteps := 1000000) (disch := first | exact sd | fail) only [go_sem, Nat.reduceAdd, Nat.reduceSub, Nat.reduceLeDiff, ↓reduceIte, decide_eq_true_eq, if_true, if_false, Bool.false_eq_true, Int.lt_irrefl, implies_true, true_and, and_true, eq_self, and_self, beq_self_eq_true, aw_plan (id := 3) pl5_3, pl5_3, aw_plan (id := 4) pl5_4, pl5_4, aw_plan (id := 5) pl5_5, pl5_5, g1, g2]
    refine PC.step (p41) fun m1 j1 => ?_
    try simp only [Heap.next_push, Heap.next_set, Heap.next_kill, next_bump, next_E0] at j1
    simp (maxSteps := 1000000) (disch := first | exact sd | fail) only [go_sem, Nat.reduceAdd, Nat.reduceSub, Nat.reduceLeDiff, ↓reduceIte, decide_eq_true_eq, if_true, if_false, Bool.false_eq_true, Int.lt_irrefl, implies_true, true_and, and_true, eq_self, and_self, beq_self_eq_true, aw_plan (id := 3) pl5_3, pl5_3, aw_plan (id := 4) pl5_4, pl5_4, aw_plan (id := 5) pl5_5, pl5_5]
    exact .rfl
  by_cases g3 : (8 : Int) < l3.length
  · simp (maxSteps := 1000000) (disch := first | exact sd | fail) only [go_sem, Nat.reduceAdd, Nat.reduceSub, Nat.reduceLeDiff, ↓reduceIte, decide_eq_true_eq, if_true, if_false, Bool.false_eq_true, Int.lt_irrefl, implies_true, true_and, and_true, eq_self, and_self, beq_self_eq_true, aw_plan (id := 3) pl5_3, pl5_3, aw_plan (id := 4) pl5_4, pl5_4, aw_plan (id := 5) pl5_5, pl5_5, g1, g2, g3]
    refine PC.step (p41) fun m1 j1 => ?_
    try simp only [Heap.next_push, Heap.next_set, Heap.next_kill, next_bump, next_E0] at j1
    simp (maxSteps := 1000000) (disch := first | exact sd | fail) only [go_sem, Nat.reduceAdd, Nat.reduceSub, Nat.reduceLeDiff, ↓reduceIte, decide_eq_true_eq, if_true, if_false, Bool.false_eq_true, Int.lt_irrefl, implies_true, true_and, and_true, eq_self, and_self, beq_self_eq_true, aw_plan (id := 3) pl5_3, pl5_3, aw_plan (id := 4) pl5_4, pl5_4, aw_plan (id := 5) pl5_5, pl5_5]
    exact .rfl
  simp (maxSteps := 1000000) (disch := first | exact sd | fail) only [go_sem, Nat.reduceAdd, Nat.reduceSub, Nat.reduceLeDiff, ↓reduceIte, decide_eq_true_eq, if_true, if_false, Bool.false_eq_true, Int.lt_irrefl, implies_true, true_and, and_true, eq_self, and_self, beq_self_eq_true, aw_plan (id := 3) pl5_3, pl5_3, aw_plan (id := 4) pl5_4, pl5_4, aw_plan (id := 5) pl5_5, pl5_5, g1, g2, g3]
  have b1 : Lb l1 := ⟨k1, by omega⟩
  have b2 : Lb l2 := ⟨k2, by omega⟩
  have b3 : Lb l3 := ⟨k3, by omega⟩
  have lA : ln (den n1 l1) ≤ 8 := by have := ln_den (n := n1) k1; omega
  have lB : ln (den n2 l2) ≤ 8 := by have := ln_den (n := n2) k2; omega
  have lC : ln (den n3 l3) ≤ 8 := by have := ln_den (n := n3) k3; omega
  have q46 := p46 (n := n1) (m := n2) b1 b2 (by omega) (by omega)
  have q46' := p46 (n := n2) (m := n1) b2 b1 (by omega) (by omega)
  have q55c := fun (H : Heap) (K : Value → Heap → Prop) => s55n (H := H) (K := K) (n := n3) b3
  have q55a := fun (H : Heap) (K : Value → Heap → Prop) => s55n (H := H) (K := K) (n := n1) b1
  have qCs := fun (c : Int) (hc : ln c ≤ 2 ^ 39) => p54 (n := n3) (l := l3) (m := sgn c) (k := lmb c) b3 (lb_z (by omega))
  have qAs := fun (c : Int) (hc : ln c ≤ 2 ^ 39) => p54 (n := n1) (l := l1) (m := sgn c) (k := lmb c) b1 (lb_z (by omega))
  have qAC := p54 (n := n1) (m := n3) b1 b3
  have qBC := p54 (n := n2) (m := n3) b2 b3
  have qAB := p54 (n := n1) (m := n2) b1 b2
  have qAg := fun (c : Int) (hc : ln c ≤ 2 ^ 39) => p46 (n := n1) (l := l1) (m := sgn c) (k := lmb c) b1 (lb_z (by omega)) (by omega) (by rw [den_z]; exact hc)
  generalize den n1 l1 = A at *
  generalize den n2 l2 = B at *
  generalize den n3 l3 = C at *
  have s1 := ln_sg C
  have s2 := ln_sg A
  have lg := ln_gcd' lA lB
  have e1 := ln_mul C (sg C)
  have e2 := ln_mul (Int.gcd A B) (C * sg C)
  have e3 := ln_mul A (sg A)
  have e4 := ln_mul A C
  have e5 := ln_mul B C
  have e6 := ln_mul A B
  refine PC.step (q46) fun m1 j1 => ?_
  try simp only [Heap.next_push, Heap.next_set, Heap.next_kill, next_bump, next_E0] at j1
  simp (maxSteps := 1000000) (disch := first | exact sd | fail) only [go_sem, Nat.reduceAdd, Nat.reduceSub, Nat.reduceLeDiff, ↓reduceIte, decide_eq_true_eq, if_true, if_false, Bool.false_eq_true, Int.lt_irrefl, implies_true, true_and, and_true, eq_self, and_self, beq_self_eq_true, aw_plan (id := 3) pl5_3, pl5_3, aw_plan (id := 4) pl5_4, pl5_4, aw_plan (id := 5) pl5_5, pl5_5]
  refine q55c _ _ fun m2 j2 => ?_
  try simp only [Heap.next_push, Heap.next_set, Heap.next_kill, next_bump, next_E0] at j2
  simp (maxSteps := 1000000) (disch := first | exact sd | fail) only [go_sem, Nat.reduceAdd, Nat.reduceSub, Nat.reduceLeDiff, ↓reduceIte, decide_eq_true_eq, if_true, if_false, Bool.false_eq_true, Int.lt_irrefl, implies_true, true_and, and_true, eq_self, and_self, beq_self_eq_true, aw_plan (id := 3) pl5_3, pl5_3, aw_plan (id := 4) pl5_4, pl5_4, aw_plan (id := 5) pl5_5, pl5_5]
  refine PC.step (p50 (sg_bd C)) fun m3 j3 => ?_
  try simp only [Heap.next_push, Heap.next_set, Heap.next_kill, next_bump, next_E0] at j3
  simp (maxSteps := 1000000) (disch := first | exact sd | fail) only [go_sem, Nat.reduceAdd, Nat.reduceSub, Nat.reduceLeDiff, ↓reduceIte, decide_eq_true_eq, if_true, if_false, Bool.false_eq_true, Int.lt_irrefl, implies_true, true_and, and_true, eq_self, and_self, beq_self_eq_true, aw_plan (id := 3) pl5_3, pl5_3, aw_plan (id := 4) pl5_4, pl5_4, aw_plan (id := 5) pl5_5, pl5_5]
  refine PC.step (qCs (sg C) (by omega)) fun m4 j4 => ?_
  try simp only [Heap.next_push, Heap.next_set, Heap.next_kill, next_bump, next_E0] at j4
  simp (maxSteps := 1000000) (disch := first | exact sd | fail) only [go_sem, Nat.reduceAdd, Nat.reduceSub, Nat.reduceLeDiff, ↓reduceIte, decide_eq_true_eq, if_true, if_false, Bool.false_eq_true, Int.lt_irrefl, implies_true, true_and, and_true, eq_self, and_self, beq_self_eq_true, aw_plan (id := 3) pl5_3, pl5_3, aw_plan (id := 4) pl5_4, pl5_4, aw_plan (id := 5) pl5_5, pl5_5]
  refine PC.step (p54 (lb_z (by omega)) (lb_z (by omega))) fun m5 j5 => ?_
  try simp only [Heap.next_push, Heap.next_set, Heap.next_kill, next_bump, next_E0] at j5
  simp (maxSteps := 1000000) (disch := first | exact sd | fail) only [go_sem, Nat.reduceAdd, Nat.reduceSub, Nat.reduceLeDiff, ↓reduceIte, decide_eq_true_eq, if_true, if_false, Bool.false_eq_true, Int.lt_irrefl, implies_true, true_and, and_true, eq_self, and_self, beq_self_eq_true, aw_plan (id := 3) pl5_3, pl5_3, aw_plan (id := 4) pl5_4, pl5_4, aw_plan (id := 5) pl5_5, pl5_5]
  refine q55a _ _ fun m6 j6 => ?_
  try simp only [Heap.next_push, Heap.next_set, Heap.next_kill, next_bump, next_E0] at j6
  simp (maxSteps := 1000000) (disch := first | exact sd | fail) only [go_sem, Nat.reduceAdd, Nat.reduceSub, Nat.reduceLeDiff, ↓reduceIte, decide_eq_true_eq, if_true, if_false, Bool.false_eq_true, Int.lt_irrefl, implies_true, true_and, and_true, eq_self, and_self, beq_self_eq_true, aw_plan (id := 3) pl5_3, pl5_3, aw_plan (id := 4) pl5_4, pl5_4, aw_plan (id := 5) pl5_5, pl5_5]
  refine PC.step (p50 (sg_bd A)) fun m7 j7 => ?_
  try simp only [Heap.next_push, Heap.next_set, Heap.next_kill, next_bump, next_E0] at j7
  simp (maxSteps := 1000000) (disch := first | exact sd | fail) only [go_sem, Nat.reduceAdd, Nat.reduceSub, Nat.reduceLeDiff, ↓reduceIte, decide_eq_true_eq, if_true, if_false, Bool.false_eq_true, Int.lt_irrefl, implies_true, true_and, and_true, eq_self, and_self, beq_self_eq_true, aw_plan (id := 3) pl5_3, pl5_3, aw_plan (id := 4) pl5_4, pl5_4, aw_plan (id := 5) pl5_5, pl5_5]
  refine PC.step (qAs (sg A) (by omega)) fun m8 j8 => ?_
  try simp only [Heap.next_push, Heap.next_set, Heap.next_kill, next_bump, next_E0] at j8
  simp (maxSteps := 1000000) (disch := first | exact sd | fail) only [go_sem, Nat.reduceAdd, Nat.reduceSub, Nat.reduceLeDiff, ↓reduceIte, decide_eq_true_eq, if_true, if_false, Bool.false_eq_true, Int.lt_irrefl, implies_true, true_and, and_true, eq_self, and_self, beq_self_eq_true, aw_plan (id := 3) pl5_3, pl5_3, aw_plan (id := 4) pl5_4, pl5_4, aw_plan (id := 5) pl5_5, pl5_5]
  refine PC.step (qAC) fun m9 j9 => ?_
  try simp only [Heap.next_push, Heap.next_set, Heap.next_kill, next_bump, next_E0] at j9
  simp (maxSteps := 1000000) (disch := first | exact sd | fail) only [go_sem, Nat.reduceAdd, Nat.reduceSub, Nat.reduceLeDiff, ↓reduceIte, decide_eq_true_eq, if_true, if_false, Bool.false_eq_true, Int.lt_irrefl, implies_true, true_and, and_true, eq_self, and_self, beq_self_eq_true, aw_plan (id := 3) pl5_3, pl5_3, aw_plan (id := 4) pl5_4, pl5_4, aw_plan (id := 5) pl5_5, pl5_5]
  refine PC.step (qBC) fun m10 j10 => ?_
  try simp only [Heap.next_push, Heap.next_set, Heap.next_kill, next_bump, next_E0] at j10
  simp (maxSteps := 1000000) (disch := first | exact sd | fail) only [go_sem, Nat.reduceAdd, Nat.reduceSub, Nat.reduceLeDiff, ↓reduceIte, decide_eq_true_eq, if_true, if_false, Bool.false_eq_true, Int.lt_irrefl, implies_true, true_and, and_true, eq_self, and_self, beq_self_eq_true, aw_plan (id := 3) pl5_3, pl5_3, aw_plan (id := 4) pl5_4, pl5_4, aw_plan (id := 5) pl5_5, pl5_5]
  refine PC.step (p46 (lb_z (by omega)) (lb_z (by omega)) (by rw [den_z]; omega) (by rw [den_z]; omega)) fun m11 j11 => ?_
  try simp only [Heap.next_push, Heap.next_set, Heap.next_kill, next_bump, next_E0] at j11
  simp (maxSteps := 1000000) (disch := first | exact sd | fail) only [go_sem, Nat.reduceAdd, Nat.reduceSub, Nat.reduceLeDiff, ↓reduceIte, decide_eq_true_eq, if_true, if_false, Bool.false_eq_true, Int.lt_irrefl, implies_true, true_and, and_true, eq_self, and_self, beq_self_eq_true, aw_plan (id := 3) pl5_3, pl5_3, aw_plan (id := 4) pl5_4, pl5_4, aw_plan (id := 5) pl5_5, pl5_5, gcd_times]
  refine PC.step (p44t (by omega) rfl) fun m12 j12 => ?_
  try simp only [Heap.next_push, Heap.next_set, Heap.next_kill, next_bump, next_E0] at j12
  simp (maxSteps := 1000000) (disch := first | exact sd | fail) only [go_sem, Nat.reduceAdd, Nat.reduceSub, Nat.reduceLeDiff, ↓reduceIte, decide_eq_true_eq, if_true, if_false, Bool.false_eq_true, Int.lt_irrefl, implies_true, true_and, and_true, eq_self, and_self, beq_self_eq_true, aw_plan (id := 3) pl5_3, pl5_3, aw_plan (id := 4) pl5_4, pl5_4, aw_plan (id := 5) pl5_5, pl5_5]
  refine PC.step (q46) fun m13 j13 => ?_
  try simp only [Heap.next_push, Heap.next_set, Heap.next_kill, next_bump, next_E0] at j13
  simp (maxSteps := 1000000) (disch := first | exact sd | fail) only [go_sem, Nat.reduceAdd, Nat.reduceSub, Nat.reduceLeDiff, ↓reduceIte, decide_eq_true_eq, if_true, if_false, Bool.false_eq_true, Int.lt_irrefl, implies_true, true_and, and_true, eq_self, and_self, beq_self_eq_true, aw_plan (id := 3) pl5_3, pl5_3, aw_plan (id := 4) pl5_4, pl5_4, aw_plan (id := 5) pl5_5, pl5_5]
  refine PC.step (q46') fun m14 j14 => ?_
  try simp only [Heap.next_push, Heap.next_set, Heap.next_kill, next_bump, next_E0] at j14
  simp (maxSteps := 1000000) (disch := first | exact sd | fail) only [go_sem, Nat.reduceAdd, Nat.reduceSub, Nat.reduceLeDiff, ↓reduceIte, decide_eq_true_eq, if_true, if_false, Bool.false_eq_true, Int.lt_irrefl, implies_true, true_and, and_true, eq_self, and_self, beq_self_eq_true, aw_plan (id := 3) pl5_3, pl5_3, aw_plan (id := 4) pl5_4, pl5_4, aw_plan (id := 5) pl5_5, pl5_5, Int.gcd_comm B A]
  refine PC.step (p44t (by omega) rfl) fun m15 j15 => ?_
  try simp only [Heap.next_push, Heap.next_set, Heap.next_kill, next_bump, next_E0] at j15
  simp (maxSteps := 1000000) (disch := first | exact sd | fail) only [go_sem, Nat.reduceAdd, Nat.reduceSub, Nat.reduceLeDiff, ↓reduceIte, decide_eq_true_eq, if_true, if_false, Bool.false_eq_true, Int.lt_irrefl, implies_true, true_and, and_true, eq_self, and_self, beq_self_eq_true, aw_plan (id := 3) pl5_3, pl5_3, aw_plan (id := 4) pl5_4, pl5_4, aw_plan (id := 5) pl5_5, pl5_5]
  refine PC.step (qAB) fun m16 j16 => ?_
  try simp only [Heap.next_push, Heap.next_set, Heap.next_kill, next_bump, next_E0] at j16
  simp (maxSteps := 1000000) (disch := first | exact sd | fail) only [go_sem, Nat.reduceAdd, Nat.reduceSub, Nat.reduceLeDiff, ↓reduceIte, decide_eq_true_eq, if_true, if_false, Bool.false_eq_true, Int.lt_irrefl, implies_true, true_and, and_true, eq_self, and_self, beq_self_eq_true, aw_plan (id := 3) pl5_3, pl5_3, aw_plan (id := 4) pl5_4, pl5_4, aw_plan (id := 5) pl5_5, pl5_5]
  refine PC.step (qAg (A * B) (by omega)) fun m17 j17 => ?_
  try simp only [Heap.next_push, Heap.next_set, Heap.next_kill, next_bump, next_E0] at j17
  simp (maxSteps := 1000000) (disch := first | exact sd | fail) only [go_sem, Nat.reduceAdd, Nat.reduceSub, Nat.reduceLeDiff, ↓reduceIte, decide_eq_true_eq, if_true, if_false, Bool.false_eq_true, Int.lt_irrefl, implies_true, true_and, and_true, eq_self, and_self, beq_self_eq_true, aw_plan (id := 3) pl5_3, pl5_3, aw_plan (id := 4) pl5_4, pl5_4, aw_plan (id := 5) pl5_5, pl5_5, gcd_mult]
  refine PC.step (p44t (by omega) rfl) fun m18 j18 => ?_
  try simp only [Heap.next_push, Heap.next_set, Heap.next_kill, next_bump, next_E0] at j18
  simp (maxSteps := 1000000) (disch := first | exact sd | fail) only [go_sem, Nat.reduceAdd, Nat.reduceSub, Nat.reduceLeDiff, ↓reduceIte, decide_eq_true_eq, if_true, if_false, Bool.false_eq_true, Int.lt_irrefl, implies_true, true_and, and_true, eq_self, and_self, beq_self_eq_true, aw_plan (id := 3) pl5_3, pl5_3, aw_plan (id := 4) pl5_4, pl5_4, aw_plan (id := 5) pl5_5, pl5_5]
  refine PC.step (p41) fun m19 j19 => ?_
  try simp only [Heap.next_push, Heap.next_set, Heap.next_kill, next_bump, next_E0] at j19
  simp (maxSteps := 1000000) (disch := first | exact sd | fail) only [go_sem, Nat.reduceAdd, Nat.reduceSub, Nat.reduceLeDiff, ↓reduceIte, decide_eq_true_eq, if_true, if_false, Bool.false_eq_true, Int.lt_irrefl, implies_true, true_and, and_true, eq_self, and_self, beq_self_eq_true, aw_plan (id := 3) pl5_3, pl5_3, aw_plan (id := 4) pl5_4, pl5_4, aw_plan (id := 5) pl5_5, pl5_5]
  exact .rfl

theorem lawNumGcds {H : Heap} {xs : List Value} (hf : ∀ b, H.next ≤ b → H.get b = none) (hg : GoodArgs Try.prog H 8 [24, 24, 24] xs) : ACalls Try.prog 5 xs H fun v _ => v = .bool true := by
  obtain ⟨ps, h1, h2, h3⟩ := args_frz hf (by intro t ht; simp only [List.mem_cons, List.not_mem_nil, or_false] at ht; rcases ht with rfl | rfl | rfl <;> kernel_rfl) hg
  obtain ⟨p0, ps0, rfl, a0, r0⟩ := h3.cons
  obtain ⟨n0, l0, rfl, k0, _⟩ := a0.num
  obtain ⟨p1, ps1, rfl, a1, r1⟩ := r0.cons
  obtain ⟨n1, l1, rfl, k1, _⟩ := a1.num
  obtain ⟨p2, ps2, rfl, a2, r2⟩ := r1.cons
  obtain ⟨n2, l2, rfl, k2, _⟩ := a2.num
  obtain rfl := r2.nil
  exact (q5 k0 k1 k2).law h1
end Go.Abs
