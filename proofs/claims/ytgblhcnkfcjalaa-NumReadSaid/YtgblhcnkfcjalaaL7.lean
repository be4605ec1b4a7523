/- NumRead, on values. -/
import Derived.Test.YtgblhcnkfcjalaaY7
set_option linter.unusedVariables false
set_option linter.unusedSimpArgs false
namespace Go.Abs
open Go Go.Proofs
set_option maxRecDepth 100000
set_option maxHeartbeats 40000000

def pl7_5 : Plan := ⟨[0], [(1, [], [2, 3, 4]), (5, [], [6, 7, 8, 9, 10]), (11, [], [12, 13, 14, 15, 16]), (17, [], [18, 19, 20, 21, 23, 26, 27]), (22, [27, 26, 23], []), (24, [27, 26], [25]), (28, [], [29, 30, 31, 32, 33]), (34, [], [35, 36]), (37, [], [38, 39])]⟩
theorem q7 {n1 n2 : Bool} {l1 l2 : List Int} (k1 : Lim l1) (k2 : Lim l2) : PC Try.prog 7 [In n1 l1, In n2 l2] (.bool true) := by
  refine PC.of (.cons pu_in (.cons pu_in .nil)) (.ground rfl) fun N hN => ?_
  refine ACalls.of_code T.hm (n := 63) Try.func7 rfl rfl rfl rfl ?_; simp only [List.replicate_succ, List.replicate_zero, List.cons_append, List.nil_append]
  simp (maxSteps := 1000000) (disch := first | exact sd | fail) only [go_sem, Nat.reduceAdd, Nat.reduceSub, Nat.reduceLeDiff, ↓reduceIte, decide_eq_true_eq, if_true, if_false, Bool.false_eq_true, Int.lt_irrefl, implies_true, true_and, and_true, eq_self, and_self, beq_self_eq_true, aw_plan (id := 5) pl7_5, pl7_5]
  refine PC.peek1 (es := 2) (own := true) (el := 24) (cells := [.bool n1, Vv eU l1, .bool n2, Vv eU l2]) (by simp (maxSteps := 1000000) (disch := first | exact sd | fail) only [go_sem, Nat.reduceAdd, Nat.reduceSub, Nat.reduceLeDiff, ↓reduceIte, decide_eq_true_eq, if_true, if_false, Bool.false_eq_true, Int.lt_irrefl, implies_true, true_and, and_true, eq_self, and_self, beq_self_eq_true, aw_plan (id := 5) pl7_5, pl7_5]) (by simp (maxSteps := 1000000) (disch := first | exact sd | fail) only [go_sem, Nat.reduceAdd, Nat.reduceSub, Nat.reduceLeDiff, ↓reduceIte, decide_eq_true_eq, if_true, if_false, Bool.false_eq_true, Int.lt_irrefl, implies_true, true_and, and_true, eq_self, and_self, beq_self_eq_true, aw_plan (id := 5) pl7_5, pl7_5]; omega) (.inr (by unfold unk; omega)) (by decide) (.inr T.s24) rfl (p40 (ls := [⟨n1, l1⟩, ⟨n2, l2⟩]) (by simp)) rfl ?_
  simp only [List.any_cons, List.any_nil, Bool.or_false]
  by_cases big : 40 < l1.length ∨ 40 < l2.length
  · have hb : (decide (40 < l1.length) || decide (40 < l2.length)) = true := by simpa using big
    rw [hb]
    simp (maxSteps := 1000000) (disch := first | exact sd | fail) only [go_sem, Nat.reduceAdd, Nat.reduceSub, Nat.reduceLeDiff, ↓reduceIte, decide_eq_true_eq, if_true, if_false, Bool.false_eq_true, Int.lt_irrefl, implies_true, true_and, and_true, eq_self, and_self, beq_self_eq_true, aw_plan (id := 5) pl7_5, pl7_5]
    refine PC.step (p41) fun m1 j1 => ?_
    try simp only [Heap.next_push, Heap.next_set, Heap.next_kill, next_bump, next_E0] at j1
    simp (maxSteps := 1000000) (disch := first | exact sd | fail) only [go_sem, Nat.reduceAdd, Nat.reduceSub, Nat.reduceLeDiff, ↓reduceIte, decide_eq_true_eq, if_true, if_false, Bool.false_eq_true, Int.lt_irrefl, implies_true, true_and, and_true, eq_self, and_self, beq_self_eq_true, aw_plan (id := 5) pl7_5, pl7_5]
    exact .rfl
  have hb : (decide (40 < l1.length) || decide (40 < l2.length)) = false := by
    rw [Bool.or_eq_false_iff]; exact ⟨by simp; omega, by simp; omega⟩
  rw [hb]
  simp (maxSteps := 1000000) (disch := first | exact sd | fail) only [go_sem, Nat.reduceAdd, Nat.reduceSub, Nat.reduceLeDiff, ↓reduceIte, decide_eq_true_eq, if_true, if_false, Bool.false_eq_true, Int.lt_irrefl, implies_true, true_and, and_true, eq_self, and_self, beq_self_eq_true, aw_plan (id := 5) pl7_5, pl7_5]
  have b1 : Lb l1 := ⟨k1, by omega⟩
  have b2 : Lb l2 := ⟨k2, by omega⟩
  have lA : ln (den n1 l1) ≤ 40 := by have := ln_den (n := n1) k1; omega
  have lB : ln (den n2 l2) ≤ 40 := by have := ln_den (n := n2) k2; omega
  have q581 := p58 (n := n1) b1 (by omega)
  have q582 := p58 (n := n2) b2 (by omega)
  have q551 := fun (c : Int) (hc : ln c ≤ 2 ^ 39) => p55 (n := sgn c) (l := lmb c) (m := n1) (lb_z (by omega)) b1
  have q552 := fun (c : Int) (hc : ln c ≤ 2 ^ 39) => p55 (n := sgn c) (l := lmb c) (m := n2) (lb_z (by omega)) b2
  have q55 := p55 (n := n1) (m := n2) b1 b2
  generalize den n1 l1 = A at *
  generalize den n2 l2 = B at *
  refine PC.step (q581) fun m1 j1 => ?_
  try simp only [Heap.next_push, Heap.next_set, Heap.next_kill, next_bump, next_E0] at j1
  simp (maxSteps := 1000000) (disch := first | exact sd | fail) only [go_sem, Nat.reduceAdd, Nat.reduceSub, Nat.reduceLeDiff, ↓reduceIte, decide_eq_true_eq, if_true, if_false, Bool.false_eq_true, Int.lt_irrefl, implies_true, true_and, and_true, eq_self, and_self, beq_self_eq_true, aw_plan (id := 5) pl7_5, pl7_5]
  refine PC.step (p56t (z := A) (by omega)) fun m2 j2 => ?_
  try simp only [Heap.next_push, Heap.next_set, Heap.next_kill, next_bump, next_E0] at j2
  simp (maxSteps := 1000000) (disch := first | exact sd | fail) only [go_sem, Nat.reduceAdd, Nat.reduceSub, Nat.reduceLeDiff, ↓reduceIte, decide_eq_true_eq, if_true, if_false, Bool.false_eq_true, Int.lt_irrefl, implies_true, true_and, and_true, eq_self, and_self, beq_self_eq_true, aw_plan (id := 5) pl7_5, pl7_5]
  refine PC.step (q582) fun m3 j3 => ?_
  try simp only [Heap.next_push, Heap.next_set, Heap.next_kill, next_bump, next_E0] at j3
  simp (maxSteps := 1000000) (disch := first | exact sd | fail) only [go_sem, Nat.reduceAdd, Nat.reduceSub, Nat.reduceLeDiff, ↓reduceIte, decide_eq_true_eq, if_true, if_false, Bool.false_eq_true, Int.lt_irrefl, implies_true, true_and, and_true, eq_self, and_self, beq_self_eq_true, aw_plan (id := 5) pl7_5, pl7_5]
  refine PC.step (p56t (z := B) (by omega)) fun m4 j4 => ?_
  try simp only [Heap.next_push, Heap.next_set, Heap.next_kill, next_bump, next_E0] at j4
  simp (maxSteps := 1000000) (disch := first | exact sd | fail) only [go_sem, Nat.reduceAdd, Nat.reduceSub, Nat.reduceLeDiff, ↓reduceIte, decide_eq_true_eq, if_true, if_false, Bool.false_eq_true, Int.lt_irrefl, implies_true, true_and, and_true, eq_self, and_self, beq_self_eq_true, aw_plan (id := 5) pl7_5, pl7_5]
  refine PC.step (p45) fun m5 j5 => ?_
  try simp only [Heap.next_push, Heap.next_set, Heap.next_kill, next_bump, next_E0] at j5
  simp (maxSteps := 1000000) (disch := first | exact sd | fail) only [go_sem, Nat.reduceAdd, Nat.reduceSub, Nat.reduceLeDiff, ↓reduceIte, decide_eq_true_eq, if_true, if_false, Bool.false_eq_true, Int.lt_irrefl, implies_true, true_and, and_true, eq_self, and_self, beq_self_eq_true, aw_plan (id := 5) pl7_5, pl7_5]
  refine PC.step (p45) fun m6 j6 => ?_
  try simp only [Heap.next_push, Heap.next_set, Heap.next_kill, next_bump, next_E0] at j6
  simp (maxSteps := 1000000) (disch := first | exact sd | fail) only [go_sem, Nat.reduceAdd, Nat.reduceSub, Nat.reduceLeDiff, ↓reduceIte, decide_eq_true_eq, if_true, if_false, Bool.false_eq_true, Int.lt_irrefl, implies_true, true_and, and_true, eq_self, and_self, beq_self_eq_true, aw_plan (id := 5) pl7_5, pl7_5]
  refine PC.step (q551 A (by omega)) fun m7 j7 => ?_
  try simp only [Heap.next_push, Heap.next_set, Heap.next_kill, next_bump, next_E0] at j7
  rw [den_z, Int.sub_self]
  simp (maxSteps := 1000000) (disch := first | exact sd | fail) only [go_sem, Nat.reduceAdd, Nat.reduceSub, Nat.reduceLeDiff, ↓reduceIte, decide_eq_true_eq, if_true, if_false, Bool.false_eq_true, Int.lt_irrefl, implies_true, true_and, and_true, eq_self, and_self, beq_self_eq_true, aw_plan (id := 5) pl7_5, pl7_5, sg_zero]
  refine PC.step (q552 B (by omega)) fun m8 j8 => ?_
  try simp only [Heap.next_push, Heap.next_set, Heap.next_kill, next_bump, next_E0] at j8
  rw [den_z, Int.sub_self]
  simp (maxSteps := 1000000) (disch := first | exact sd | fail) only [go_sem, Nat.reduceAdd, Nat.reduceSub, Nat.reduceLeDiff, ↓reduceIte, decide_eq_true_eq, if_true, if_false, Bool.false_eq_true, Int.lt_irrefl, implies_true, true_and, and_true, eq_self, and_self, beq_self_eq_true, aw_plan (id := 5) pl7_5, pl7_5, sg_zero]
  refine PC.step (q581) fun m9 j9 => ?_
  try simp only [Heap.next_push, Heap.next_set, Heap.next_kill, next_bump, next_E0] at j9
  simp (maxSteps := 1000000) (disch := first | exact sd | fail) only [go_sem, Nat.reduceAdd, Nat.reduceSub, Nat.reduceLeDiff, ↓reduceIte, decide_eq_true_eq, if_true, if_false, Bool.false_eq_true, Int.lt_irrefl, implies_true, true_and, and_true, eq_self, and_self, beq_self_eq_true, aw_plan (id := 5) pl7_5, pl7_5]
  refine PC.step (q582) fun m10 j10 => ?_
  try simp only [Heap.next_push, Heap.next_set, Heap.next_kill, next_bump, next_E0] at j10
  simp (maxSteps := 1000000) (disch := first | exact sd | fail) only [go_sem, Nat.reduceAdd, Nat.reduceSub, Nat.reduceLeDiff, ↓reduceIte, decide_eq_true_eq, if_true, if_false, Bool.false_eq_true, Int.lt_irrefl, implies_true, true_and, and_true, eq_self, and_self, beq_self_eq_true, aw_plan (id := 5) pl7_5, pl7_5]
  refine PC.step (q55) fun m11 j11 => ?_
  try simp only [Heap.next_push, Heap.next_set, Heap.next_kill, next_bump, next_E0] at j11
  by_cases hAB : A = B
  · have h0 : sg (A - B) = 0 := sg_eq0.2 (by omega)
    subst hAB
    simp (maxSteps := 1000000) (disch := first | exact sd | fail) only [go_sem, Nat.reduceAdd, Nat.reduceSub, Nat.reduceLeDiff, ↓reduceIte, decide_eq_true_eq, if_true, if_false, Bool.false_eq_true, Int.lt_irrefl, implies_true, true_and, and_true, eq_self, and_self, beq_self_eq_true, aw_plan (id := 5) pl7_5, pl7_5, h0, bin_seql, seql_txt, decide_true]
    refine PC.step (p51 (lb_z (z := A) (by omega))) fun m12 j12 => ?_
    try simp only [Heap.next_push, Heap.next_set, Heap.next_kill, next_bump, next_E0] at j12
    rw [may_z]
    simp (maxSteps := 1000000) (disch := first | exact sd | fail) only [go_sem, Nat.reduceAdd, Nat.reduceSub, Nat.reduceLeDiff, ↓reduceIte, decide_eq_true_eq, if_true, if_false, Bool.false_eq_true, Int.lt_irrefl, implies_true, true_and, and_true, eq_self, and_self, beq_self_eq_true, aw_plan (id := 5) pl7_5, pl7_5]
    refine PC.step (p41) fun m13 j13 => ?_
    try simp only [Heap.next_push, Heap.next_set, Heap.next_kill, next_bump, next_E0] at j13
    simp (maxSteps := 1000000) (disch := first | exact sd | fail) only [go_sem, Nat.reduceAdd, Nat.reduceSub, Nat.reduceLeDiff, ↓reduceIte, decide_eq_true_eq, if_true, if_false, Bool.false_eq_true, Int.lt_irrefl, implies_true, true_and, and_true, eq_self, and_self, beq_self_eq_true, aw_plan (id := 5) pl7_5, pl7_5]
    exact .rfl
  · have h0 : ¬ sg (A - B) = 0 := fun h => hAB (by have := sg_eq0.1 h; omega)
    simp (maxSteps := 1000000) (disch := first | exact sd | fail) only [go_sem, Nat.reduceAdd, Nat.reduceSub, Nat.reduceLeDiff, ↓reduceIte, decide_eq_true_eq, if_true, if_false, Bool.false_eq_true, Int.lt_irrefl, implies_true, true_and, and_true, eq_self, and_self, beq_self_eq_true, aw_plan (id := 5) pl7_5, pl7_5, h0, bin_seql, seql_txt, hAB, decide_false]
    refine PC.step (p51 (lb_z (z := A) (by omega))) fun m12 j12 => ?_
    try simp only [Heap.next_push, Heap.next_set, Heap.next_kill, next_bump, next_E0] at j12
    rw [may_z]
    simp (maxSteps := 1000000) (disch := first | exact sd | fail) only [go_sem, Nat.reduceAdd, Nat.reduceSub, Nat.reduceLeDiff, ↓reduceIte, decide_eq_true_eq, if_true, if_false, Bool.false_eq_true, Int.lt_irrefl, implies_true, true_and, and_true, eq_self, and_self, beq_self_eq_true, aw_plan (id := 5) pl7_5, pl7_5]
    refine PC.step (p41) fun m13 j13 => ?_
    try simp only [Heap.next_push, Heap.next_set, Heap.next_kill, next_bump, next_E0] at j13
    simp (maxSteps := 1000000) (disch := first | exact sd | fail) only [go_sem, Nat.reduceAdd, Nat.reduceSub, Nat.reduceLeDiff, ↓reduceIte, decide_eq_true_eq, if_true, if_false, Bool.false_eq_true, Int.lt_irrefl, implies_true, true_and, and_true, eq_self, and_self, beq_self_eq_true, aw_plan (id := 5) pl7_5, pl7_5]
    exact .rfl

theorem lawNumRead {H : Heap} {xs : List Value} (hf : ∀ b, H.next ≤ b → H.get b = none) (hg : GoodArgs Try.prog H 8 [24, 24] xs) : ACalls Try.prog 7 xs H fun v _ => v = .bool true := by
  obtain ⟨ps, h1, h2, h3⟩ := args_frz hf (by intro t ht; simp only [List.mem_cons, List.not_mem_nil, or_false] at ht; rcases ht with rfl | rfl <;> kernel_rfl) hg
  obtain ⟨p, ps, rfl, h4, h5⟩ := h3.cons
  obtain ⟨p2, ps, rfl, h6, h7⟩ := h5.cons
  obtain rfl := h7.nil
  obtain ⟨n1, l1, rfl, c1, d1⟩ := h4.num
  obtain ⟨n2, l2, rfl, c2, d2⟩ := h6.num
  exact (q7 c1 c2).law h1
end Go.Abs
