/- LpRights, on values. -/
import Derived.Test.YtfadclnaahanmaaKb
set_option linter.unusedVariables false
set_option linter.unusedSimpArgs false
namespace Go.Abs
open Go Go.Proofs
set_option maxRecDepth 100000
set_option maxHeartbeats 40000000
def plL29_29_3 : Plan := ⟨[0, 2], [(1, [2], []), (3, [], [4, 5, 6, 7, 9, 10]), (8, [9], []), (11, [], [12, 13, 14]), (15, [], [16, 17])]⟩
theorem q29 {n : Int} {A : List (List RQ)} {B C x : List RQ} (hA : LimT A) (hB : LimR B) (hC : LimR C) (hx : LimR x) : PC Try.prog 10 [Lpv n A B C, Vv eQ x] (.bool true) := by
  refine PC.of (.cons pu_Lp (.cons pu_Qs .nil)) (.ground rfl) fun N hN => ?_
  have q1 := p115x (n := n) hA hB hC hx
  unfold Lpv
  refine ACalls.of_code T.hm (n := 25) Try.func10 rfl rfl rfl rfl ?_; simp only [List.replicate_succ, List.replicate_zero, List.cons_append, List.nil_append]
  simp (maxSteps := 1000000) (disch := first | exact sd | fail) only [go_sem, Nat.reduceAdd, Nat.reduceSub, Nat.reduceLeDiff, ↓reduceIte, decide_eq_true_eq, if_true, if_false, Bool.false_eq_true, Int.lt_irrefl, implies_true, true_and, and_true, eq_self, and_self, beq_self_eq_true, aw_plan (id := 3) plL29_29_3, plL29_29_3]
  refine ACalls.nz nzAns ?_
  refine PK.step q1 ?_
  rintro _ m1 ⟨c, rfl, hc⟩ j1
  cases c with
  | true =>
    simp (maxSteps := 1000000) (disch := first | exact sd | fail) only [go_sem, Nat.reduceAdd, Nat.reduceSub, Nat.reduceLeDiff, ↓reduceIte, decide_eq_true_eq, if_true, if_false, Bool.false_eq_true, Int.lt_irrefl, implies_true, true_and, and_true, eq_self, and_self, beq_self_eq_true, aw_plan (id := 3) plL29_29_3, plL29_29_3]
    refine PC.step (p116) fun m2 j2 => ?_
    try simp only [Heap.next_push, Heap.next_set, Heap.next_kill, next_bump, next_E0] at j2
    simp (maxSteps := 1000000) (disch := first | exact sd | fail) only [go_sem, Nat.reduceAdd, Nat.reduceSub, Nat.reduceLeDiff, ↓reduceIte, decide_eq_true_eq, if_true, if_false, Bool.false_eq_true, Int.lt_irrefl, implies_true, true_and, and_true, eq_self, and_self, beq_self_eq_true, aw_plan (id := 3) plL29_29_3, plL29_29_3]
    exact .rfl
  | false =>
    obtain ⟨g1, g2⟩ := hc rfl
    obtain ⟨rB, rC, rx, _, _, _⟩ := six_rg g2 hB hC hx .nil .nil .d
    have rA := hA.rg g1
    have q2 := p117 (n := n) (B := B) (C := C) hA.1
    have q3 := p118 (n := n) (B := B) (C := C) hA.1
    have q4 := p119 (n := n) (C := C) g1.1 rA rx rB
    have q5 := p120 (n := n) (C := C) g1.1 rA rx rB
    generalize okLp n A B C = b1 at *
    generalize withinV n A B C x = b2 at *
    unfold Lpv at q2 q3 q4 q5
    simp (maxSteps := 1000000) (disch := first | exact sd | fail) only [go_sem, Nat.reduceAdd, Nat.reduceSub, Nat.reduceLeDiff, ↓reduceIte, decide_eq_true_eq, if_true, if_false, Bool.false_eq_true, Int.lt_irrefl, implies_true, true_and, and_true, eq_self, and_self, beq_self_eq_true, aw_plan (id := 3) plL29_29_3, plL29_29_3]
    refine PC.step (q2) fun m2 j2 => ?_
    try simp only [Heap.next_push, Heap.next_set, Heap.next_kill, next_bump, next_E0] at j2
    simp (maxSteps := 1000000) (disch := first | exact sd | fail) only [go_sem, Nat.reduceAdd, Nat.reduceSub, Nat.reduceLeDiff, ↓reduceIte, decide_eq_true_eq, if_true, if_false, Bool.false_eq_true, Int.lt_irrefl, implies_true, true_and, and_true, eq_self, and_self, beq_self_eq_true, aw_plan (id := 3) plL29_29_3, plL29_29_3]
    refine PC.step (q3) fun m3 j3 => ?_
    try simp only [Heap.next_push, Heap.next_set, Heap.next_kill, next_bump, next_E0] at j3
    simp (maxSteps := 1000000) (disch := first | exact sd | fail) only [go_sem, Nat.reduceAdd, Nat.reduceSub, Nat.reduceLeDiff, ↓reduceIte, decide_eq_true_eq, if_true, if_false, Bool.false_eq_true, Int.lt_irrefl, implies_true, true_and, and_true, eq_self, and_self, beq_self_eq_true, aw_plan (id := 3) plL29_29_3, plL29_29_3]
    refine PC.step (q4) fun m4 j4 => ?_
    try simp only [Heap.next_push, Heap.next_set, Heap.next_kill, next_bump, next_E0] at j4
    simp (maxSteps := 1000000) (disch := first | exact sd | fail) only [go_sem, Nat.reduceAdd, Nat.reduceSub, Nat.reduceLeDiff, ↓reduceIte, decide_eq_true_eq, if_true, if_false, Bool.false_eq_true, Int.lt_irrefl, implies_true, true_and, and_true, eq_self, and_self, beq_self_eq_true, aw_plan (id := 3) plL29_29_3, plL29_29_3]
    refine PC.step (q5) fun m5 j5 => ?_
    try simp only [Heap.next_push, Heap.next_set, Heap.next_kill, next_bump, next_E0] at j5
    simp (maxSteps := 1000000) (disch := first | exact sd | fail) only [go_sem, Nat.reduceAdd, Nat.reduceSub, Nat.reduceLeDiff, ↓reduceIte, decide_eq_true_eq, if_true, if_false, Bool.false_eq_true, Int.lt_irrefl, implies_true, true_and, and_true, eq_self, and_self, beq_self_eq_true, aw_plan (id := 3) plL29_29_3, plL29_29_3]
    refine PC.step (p116) fun m6 j6 => ?_
    try simp only [Heap.next_push, Heap.next_set, Heap.next_kill, next_bump, next_E0] at j6
    simp (maxSteps := 1000000) (disch := first | exact sd | fail) only [go_sem, Nat.reduceAdd, Nat.reduceSub, Nat.reduceLeDiff, ↓reduceIte, decide_eq_true_eq, if_true, if_false, Bool.false_eq_true, Int.lt_irrefl, implies_true, true_and, and_true, eq_self, and_self, beq_self_eq_true, aw_plan (id := 3) plL29_29_3, plL29_29_3]
    exact .rfl
theorem lawLpRights {H : Heap} {xs : List Value} (hf : ∀ b, H.next ≤ b → H.get b = none) (hg : GoodArgs Try.prog H 8 [62, 45] xs) : ACalls Try.prog 10 xs H fun v _ => v = .bool true := by
  obtain ⟨ps, h1, h2, h3⟩ := args_frz hf (by intro t ht; simp only [List.mem_cons, List.not_mem_nil, or_false] at ht; rcases ht with rfl | rfl <;> kernel_rfl) hg
  obtain ⟨p0, ps0, rfl, a0, r0⟩ := h3.cons
  obtain ⟨n, A, B, C, rfl, hA, hB, hC⟩ := a0.lp
  obtain ⟨p1, ps1, rfl, a1, r1⟩ := r0.cons
  obtain ⟨x, rfl, hx⟩ := a1.rats
  obtain rfl := r1.nil
  exact (q29 hA hB hC hx).law h1
end Go.Abs
