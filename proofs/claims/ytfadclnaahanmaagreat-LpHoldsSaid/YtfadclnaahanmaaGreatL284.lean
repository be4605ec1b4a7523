/- LpHolds, on values. -/
import Derived.Test.YtfadclnaahanmaaGreatK9
set_option linter.unusedVariables false
set_option linter.unusedSimpArgs false
namespace Go.Abs
open Go Go.Proofs
set_option maxRecDepth 100000
set_option maxHeartbeats 40000000
def pl284_3 : Plan := ⟨[0, 1, 3, 4], [(2, [4, 3], []), (5, [], [6, 7]), (8, [], [9, 10])]⟩
theorem q284 {n k : Int} {A : List (List RQ)} {B C X Y Z : List RQ} {v : RQ} (hA : LimT A) (hB : LimR B) (hC : LimR C) (hv : LimQ v) (hX : LimR X) (hY : LimR Y) (hZ : LimR Z) : PC Tryz.prog 3 [Lpv n A B C, Anv k v X Y Z] (.bool true) := by
  refine PC.of (.cons pu_Lp (.cons pu_An .nil)) (.ground rfl) fun N hN => ?_
  have q1 := p115 (n := n) (k := k) (v := v) hA.1 (rows_len fun r hr => (hA.2 r hr).1) (six_len hB hC hX hY hZ)
  unfold Lpv Anv at q1 ⊢
  refine ACalls.of_code T.hm (n := 17) Tryz.func3 rfl rfl rfl rfl ?_; simp only [List.replicate_succ, List.replicate_zero, List.cons_append, List.nil_append]
  simp (maxSteps := 1000000) (disch := first | exact sd | fail) only [go_sem, Nat.reduceAdd, Nat.reduceSub, Nat.reduceLeDiff, ↓reduceIte, decide_eq_true_eq, if_true, if_false, Bool.false_eq_true, Int.lt_irrefl, implies_true, true_and, and_true, eq_self, and_self, beq_self_eq_true, aw_plan (id := 3) pl284_3, pl284_3]
  refine PK.step q1 ?_
  rintro _ m1 ⟨c, rfl, hc⟩ j1
  try simp only [Heap.next_push, Heap.next_set, Heap.next_kill, next_bump, next_E0] at j1
  cases c with
  | true =>
    simp (maxSteps := 1000000) (disch := first | exact sd | fail) only [go_sem, Nat.reduceAdd, Nat.reduceSub, Nat.reduceLeDiff, ↓reduceIte, decide_eq_true_eq, if_true, if_false, Bool.false_eq_true, Int.lt_irrefl, implies_true, true_and, and_true, eq_self, and_self, beq_self_eq_true, aw_plan (id := 3) pl284_3, pl284_3]
    refine PC.step (p116) fun m2 j2 => ?_
    try simp only [Heap.next_push, Heap.next_set, Heap.next_kill, next_bump, next_E0] at j2
    simp (maxSteps := 1000000) (disch := first | exact sd | fail) only [go_sem, Nat.reduceAdd, Nat.reduceSub, Nat.reduceLeDiff, ↓reduceIte, decide_eq_true_eq, if_true, if_false, Bool.false_eq_true, Int.lt_irrefl, implies_true, true_and, and_true, eq_self, and_self, beq_self_eq_true, aw_plan (id := 3) pl284_3, pl284_3]
    exact .rfl
  | false =>
    obtain ⟨g1, g2⟩ := hc rfl
    obtain ⟨rB, rC, rX, rY, rZ, rv⟩ := six_rg g2 hB hC hX hY hZ hv
    have rA := hA.rg g1
    have q2 := p121 (n := n) (k := k) (v := v) g1.1 rA rB rC rX rY rZ rv
    have q3 := p285 (n := n) (k := k) (v := v) g1.1 rA rB rC rX rY rZ rv
    generalize holdsV n A B C k v X Y Z = b1 at *
    unfold Lpv Anv at q2 q3
    simp (maxSteps := 1000000) (disch := first | exact sd | fail) only [go_sem, Nat.reduceAdd, Nat.reduceSub, Nat.reduceLeDiff, ↓reduceIte, decide_eq_true_eq, if_true, if_false, Bool.false_eq_true, Int.lt_irrefl, implies_true, true_and, and_true, eq_self, and_self, beq_self_eq_true, aw_plan (id := 3) pl284_3, pl284_3]
    refine PC.step (q2) fun m2 j2 => ?_
    try simp only [Heap.next_push, Heap.next_set, Heap.next_kill, next_bump, next_E0] at j2
    simp (maxSteps := 1000000) (disch := first | exact sd | fail) only [go_sem, Nat.reduceAdd, Nat.reduceSub, Nat.reduceLeDiff, ↓reduceIte, decide_eq_true_eq, if_true, if_false, Bool.false_eq_true, Int.lt_irrefl, implies_true, true_and, and_true, eq_self, and_self, beq_self_eq_true, aw_plan (id := 3) pl284_3, pl284_3]
    refine PC.step (q3) fun m3 j3 => ?_
    try simp only [Heap.next_push, Heap.next_set, Heap.next_kill, next_bump, next_E0] at j3
    simp (maxSteps := 1000000) (disch := first | exact sd | fail) only [go_sem, Nat.reduceAdd, Nat.reduceSub, Nat.reduceLeDiff, ↓reduceIte, decide_eq_true_eq, if_true, if_false, Bool.false_eq_true, Int.lt_irrefl, implies_true, true_and, and_true, eq_self, and_self, beq_self_eq_true, aw_plan (id := 3) pl284_3, pl284_3]
    refine PC.step (p116) fun m4 j4 => ?_
    try simp only [Heap.next_push, Heap.next_set, Heap.next_kill, next_bump, next_E0] at j4
    simp (maxSteps := 1000000) (disch := first | exact sd | fail) only [go_sem, Nat.reduceAdd, Nat.reduceSub, Nat.reduceLeDiff, ↓reduceIte, decide_eq_true_eq, if_true, if_false, Bool.false_eq_true, Int.lt_irrefl, implies_true, true_and, and_true, eq_self, and_self, beq_self_eq_true, aw_plan (id := 3) pl284_3, pl284_3]
    exact .rfl
theorem lawLpHolds {H : Heap} {xs : List Value} (hf : ∀ b, H.next ≤ b → H.get b = none) (hg : GoodArgs Tryz.prog H 8 [25, 32] xs) : ACalls Tryz.prog 3 xs H fun v _ => v = .bool true := by
  obtain ⟨ps, h1, h2, h3⟩ := args_frz hf (by intro t ht; simp only [List.mem_cons, List.not_mem_nil, or_false] at ht; rcases ht with rfl | rfl <;> kernel_rfl) hg
  obtain ⟨p0, ps0, rfl, a0, r0⟩ := h3.cons
  obtain ⟨n, A, B, C, rfl, hA, hB, hC⟩ := a0.lp
  obtain ⟨p1, ps1, rfl, a1, r1⟩ := r0.cons
  obtain ⟨k, v, X, Y, Z, rfl, hv, hX, hY, hZ⟩ := a1.ans
  obtain rfl := r1.nil
  exact (q284 hA hB hC hv hX hY hZ).law h1
end Go.Abs
