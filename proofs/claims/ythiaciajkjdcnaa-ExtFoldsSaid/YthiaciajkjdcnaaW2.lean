/- Quotients with two ends: order, the greater, the less, sums. -/
import Derived.Test.YthiaciajkjdcnaaW1
set_option linter.unusedVariables false
set_option linter.unusedSimpArgs false
namespace Go.Abs
open Go Go.Proofs
set_option maxRecDepth 100000
set_option maxHeartbeats 4000000
def plW2_102_1 : Plan := ⟨[0, 2], [(1, [2], []), (3, [], []), (4, [], []), (5, [], [])]⟩
variable {pn qn pn' qn' : Bool} {pl ql pl' ql' : List Int} {k k' : Int} {H : Heap} {K : Value → Heap → Prop}

theorem Xn_eq (e : XR) : Xn e = .agg ⟨[.int .i64 (xv e).kind, .bool (xv e).v.p.neg, Vv eU (xv e).v.p.l, .bool (xv e).v.q.neg, Vv eU (xv e).v.q.l]⟩ := _root_.id rfl
theorem lx_dx (h1 : Lr pl) (h2 : Lr ql) : lx (dx k pn pl qn ql) ≤ 2 ^ 37 := by
  have h := h1.q (pn := pn) (qn := qn) h2
  unfold dx lx
  split
  · split
    · exact h
    · split
      · show lq 0 ≤ _; rw [lq_zero]; decide
      · show lq 0 ≤ _; rw [lq_zero]; decide
  · show lq 0 ≤ _; rw [lq_zero]; decide
theorem p102 (h1 : Lr pl) (h2 : Lr ql) (h3 : Lr pl') (h4 : Lr ql') : PC Try.prog 14 [X5 k pn pl qn ql, X5 k' pn' pl' qn' ql'] (.int .i64 (cx (dx k pn pl qn ql) (dx k' pn' pl' qn' ql'))) := by
  refine PC.of (.cons pu_x5 (.cons pu_x5 .nil)) (.ground rfl) fun N hN => ?_
  have q1 := p176 (k := k) (pn := pn) (qn := qn) h1 h2
  have q2 := p176 (k := k') (pn := pn') (qn := qn') h3 h4
  have b1 := lx_dx (k := k) (pn := pn) (qn := qn) h1 h2
  have b2 := lx_dx (k := k') (pn := pn') (qn := qn') h3 h4
  generalize dx k pn pl qn ql = a at *
  generalize dx k' pn' pl' qn' ql' = b at *
  refine ACalls.of_code T.hm (n := 28) Try.func14 rfl rfl rfl rfl ?_; simp only [List.replicate_succ, List.replicate_zero, List.cons_append, List.nil_append]
  simp (maxSteps := 1000000) (disch := first | exact sd | fail) only [go_sem, Nat.reduceAdd, Nat.reduceSub, Nat.reduceLeDiff, ↓reduceIte, decide_eq_true_eq, if_true, if_false, Bool.false_eq_true, Int.lt_irrefl, implies_true, true_and, and_true, eq_self, and_self, beq_self_eq_true, aw_plan (id := 1) plW2_102_1, plW2_102_1]
  refine PC.step (q1) fun m1 j1 => ?_
  try simp only [Heap.next_push, Heap.next_set, Heap.next_kill, next_bump, next_E0] at j1
  simp (maxSteps := 1000000) (disch := first | exact sd | fail) only [go_sem, Nat.reduceAdd, Nat.reduceSub, Nat.reduceLeDiff, ↓reduceIte, decide_eq_true_eq, if_true, if_false, Bool.false_eq_true, Int.lt_irrefl, implies_true, true_and, and_true, eq_self, and_self, beq_self_eq_true, aw_plan (id := 1) plW2_102_1, plW2_102_1]
  refine PC.step (q2) fun m2 j2 => ?_
  try simp only [Heap.next_push, Heap.next_set, Heap.next_kill, next_bump, next_E0] at j2
  rcases a with _ | x | _ <;> rcases b with _ | y | _
  · simp (maxSteps := 1000000) (disch := first | exact sd | fail) only [go_sem, Nat.reduceAdd, Nat.reduceSub, Nat.reduceLeDiff, ↓reduceIte, decide_eq_true_eq, if_true, if_false, Bool.false_eq_true, Int.lt_irrefl, implies_true, true_and, and_true, eq_self, and_self, beq_self_eq_true, aw_plan (id := 1) plW2_102_1, plW2_102_1, show ¬ (-1 : Int) < -1 by decide, show ¬ (-1 : Int) = 0 by decide, ne_eq, not_false_eq_true, not_true_eq_false]; exact .rfl
  · simp (maxSteps := 1000000) (disch := first | exact sd | fail) only [go_sem, Nat.reduceAdd, Nat.reduceSub, Nat.reduceLeDiff, ↓reduceIte, decide_eq_true_eq, if_true, if_false, Bool.false_eq_true, Int.lt_irrefl, implies_true, true_and, and_true, eq_self, and_self, beq_self_eq_true, aw_plan (id := 1) plW2_102_1, plW2_102_1, show (-1 : Int) < 0 by decide, show ¬ (-1 : Int) = 0 by decide, ne_eq, not_false_eq_true]; exact .rfl
  · simp (maxSteps := 1000000) (disch := first | exact sd | fail) only [go_sem, Nat.reduceAdd, Nat.reduceSub, Nat.reduceLeDiff, ↓reduceIte, decide_eq_true_eq, if_true, if_false, Bool.false_eq_true, Int.lt_irrefl, implies_true, true_and, and_true, eq_self, and_self, beq_self_eq_true, aw_plan (id := 1) plW2_102_1, plW2_102_1, show (-1 : Int) < 1 by decide, show ¬ (-1 : Int) = 1 by decide, ne_eq, not_false_eq_true]; exact .rfl
  · simp (maxSteps := 1000000) (disch := first | exact sd | fail) only [go_sem, Nat.reduceAdd, Nat.reduceSub, Nat.reduceLeDiff, ↓reduceIte, decide_eq_true_eq, if_true, if_false, Bool.false_eq_true, Int.lt_irrefl, implies_true, true_and, and_true, eq_self, and_self, beq_self_eq_true, aw_plan (id := 1) plW2_102_1, plW2_102_1, show ¬ (0 : Int) < -1 by decide, show (-1 : Int) < 0 by decide, show ¬ (0 : Int) = -1 by decide, ne_eq, not_false_eq_true]; exact .rfl
  · simp (maxSteps := 1000000) (disch := first | exact sd | fail) only [go_sem, Nat.reduceAdd, Nat.reduceSub, Nat.reduceLeDiff, ↓reduceIte, decide_eq_true_eq, if_true, if_false, Bool.false_eq_true, Int.lt_irrefl, implies_true, true_and, and_true, eq_self, and_self, beq_self_eq_true, aw_plan (id := 1) plW2_102_1, plW2_102_1, show ¬ (0 : Int) < 0 by decide, ne_eq, not_true_eq_false]
    refine PC.step (p177q (x := x) (y := y) b1 b2) fun m3 j3 => ?_
    try simp only [Heap.next_push, Heap.next_set, Heap.next_kill, next_bump, next_E0] at j3
    simp (maxSteps := 1000000) (disch := first | exact sd | fail) only [go_sem, Nat.reduceAdd, Nat.reduceSub, Nat.reduceLeDiff, ↓reduceIte, decide_eq_true_eq, if_true, if_false, Bool.false_eq_true, Int.lt_irrefl, implies_true, true_and, and_true, eq_self, and_self, beq_self_eq_true, aw_plan (id := 1) plW2_102_1, plW2_102_1]
    exact .rfl
  · simp (maxSteps := 1000000) (disch := first | exact sd | fail) only [go_sem, Nat.reduceAdd, Nat.reduceSub, Nat.reduceLeDiff, ↓reduceIte, decide_eq_true_eq, if_true, if_false, Bool.false_eq_true, Int.lt_irrefl, implies_true, true_and, and_true, eq_self, and_self, beq_self_eq_true, aw_plan (id := 1) plW2_102_1, plW2_102_1, show (0 : Int) < 1 by decide, show ¬ (0 : Int) = 1 by decide, ne_eq, not_false_eq_true]; exact .rfl
  · simp (maxSteps := 1000000) (disch := first | exact sd | fail) only [go_sem, Nat.reduceAdd, Nat.reduceSub, Nat.reduceLeDiff, ↓reduceIte, decide_eq_true_eq, if_true, if_false, Bool.false_eq_true, Int.lt_irrefl, implies_true, true_and, and_true, eq_self, and_self, beq_self_eq_true, aw_plan (id := 1) plW2_102_1, plW2_102_1, show ¬ (1 : Int) < -1 by decide, show (-1 : Int) < 1 by decide, show ¬ (1 : Int) = -1 by decide, ne_eq, not_false_eq_true]; exact .rfl
  · simp (maxSteps := 1000000) (disch := first | exact sd | fail) only [go_sem, Nat.reduceAdd, Nat.reduceSub, Nat.reduceLeDiff, ↓reduceIte, decide_eq_true_eq, if_true, if_false, Bool.false_eq_true, Int.lt_irrefl, implies_true, true_and, and_true, eq_self, and_self, beq_self_eq_true, aw_plan (id := 1) plW2_102_1, plW2_102_1, show ¬ (1 : Int) < 0 by decide, show (0 : Int) < 1 by decide, show ¬ (1 : Int) = 0 by decide, ne_eq, not_false_eq_true]; exact .rfl
  · simp (maxSteps := 1000000) (disch := first | exact sd | fail) only [go_sem, Nat.reduceAdd, Nat.reduceSub, Nat.reduceLeDiff, ↓reduceIte, decide_eq_true_eq, if_true, if_false, Bool.false_eq_true, Int.lt_irrefl, implies_true, true_and, and_true, eq_self, and_self, beq_self_eq_true, aw_plan (id := 1) plW2_102_1, plW2_102_1, show ¬ (1 : Int) < 1 by decide, show ¬ (1 : Int) = 0 by decide, ne_eq, not_false_eq_true, not_true_eq_false]; exact .rfl
theorem p179 (h1 : Lr pl) (h2 : Lr ql) (h3 : Lr pl') (h4 : Lr ql') : PC Try.prog 46 [X5 k pn pl qn ql, X5 k' pn' pl' qn' ql'] (.bool (decide (cx (dx k pn pl qn ql) (dx k' pn' pl' qn' ql') < 0))) := by
  refine PC.of (.cons pu_x5 (.cons pu_x5 .nil)) (.ground rfl) fun N hN => ?_
  refine ACalls.of_code T.hm (n := 7) Try.func46 rfl rfl rfl rfl ?_; simp only [List.replicate_succ, List.replicate_zero, List.cons_append, List.nil_append]
  simp (maxSteps := 1000000) (disch := first | exact sd | fail) only [go_sem, Nat.reduceAdd, Nat.reduceSub, Nat.reduceLeDiff, ↓reduceIte, decide_eq_true_eq, if_true, if_false, Bool.false_eq_true, Int.lt_irrefl, implies_true, true_and, and_true, eq_self, and_self, beq_self_eq_true]
  refine PC.step (p102 h1 h2 h3 h4) fun m1 j1 => ?_
  try simp only [Heap.next_push, Heap.next_set, Heap.next_kill, next_bump, next_E0] at j1
  simp (maxSteps := 1000000) (disch := first | exact sd | fail) only [go_sem, Nat.reduceAdd, Nat.reduceSub, Nat.reduceLeDiff, ↓reduceIte, decide_eq_true_eq, if_true, if_false, Bool.false_eq_true, Int.lt_irrefl, implies_true, true_and, and_true, eq_self, and_self, beq_self_eq_true]
  exact .rfl
theorem p180 (h1 : Lr pl) (h2 : Lr ql) (h3 : Lr pl') (h4 : Lr ql') : PC Try.prog 47 [X5 k pn pl qn ql, X5 k' pn' pl' qn' ql'] (.bool (decide (0 < cx (dx k pn pl qn ql) (dx k' pn' pl' qn' ql')))) := by
  refine PC.of (.cons pu_x5 (.cons pu_x5 .nil)) (.ground rfl) fun N hN => ?_
  refine ACalls.of_code T.hm (n := 7) Try.func47 rfl rfl rfl rfl ?_; simp only [List.replicate_succ, List.replicate_zero, List.cons_append, List.nil_append]
  simp (maxSteps := 1000000) (disch := first | exact sd | fail) only [go_sem, Nat.reduceAdd, Nat.reduceSub, Nat.reduceLeDiff, ↓reduceIte, decide_eq_true_eq, if_true, if_false, Bool.false_eq_true, Int.lt_irrefl, implies_true, true_and, and_true, eq_self, and_self, beq_self_eq_true]
  refine PC.step (p102 h1 h2 h3 h4) fun m1 j1 => ?_
  try simp only [Heap.next_push, Heap.next_set, Heap.next_kill, next_bump, next_E0] at j1
  simp (maxSteps := 1000000) (disch := first | exact sd | fail) only [go_sem, Nat.reduceAdd, Nat.reduceSub, Nat.reduceLeDiff, ↓reduceIte, decide_eq_true_eq, if_true, if_false, Bool.false_eq_true, Int.lt_irrefl, implies_true, true_and, and_true, eq_self, and_self, beq_self_eq_true]
  exact .rfl
theorem p178 {g : FuncId} {c : Bool} (h : PC Try.prog g [X5 k pn pl qn ql, X5 k' pn' pl' qn' ql'] (.bool c)) : PC Try.prog 45 [X5 k pn pl qn ql, X5 k' pn' pl' qn' ql', .func (.func g) ⟨[]⟩ ⟨[]⟩] (if c = true then X5 k' pn' pl' qn' ql' else X5 k pn pl qn ql) := by
  refine PC.of (.cons pu_x5 (.cons pu_x5 (.cons (.fn .nil .nil) .nil))) (by split <;> exact pu_x5) fun N hN => ?_
  refine ACalls.of_code T.hm (n := 10) Try.func45 rfl rfl rfl rfl ?_; simp only [List.replicate_succ, List.replicate_zero, List.cons_append, List.nil_append]
  simp (maxSteps := 1000000) (disch := first | exact sd | fail) only [go_sem, Nat.reduceAdd, Nat.reduceSub, Nat.reduceLeDiff, ↓reduceIte, decide_eq_true_eq, if_true, if_false, Bool.false_eq_true, Int.lt_irrefl, implies_true, true_and, and_true, eq_self, and_self, beq_self_eq_true]
  refine PC.step (h) fun m1 j1 => ?_
  try simp only [Heap.next_push, Heap.next_set, Heap.next_kill, next_bump, next_E0] at j1
  cases c with
  | true => simp (maxSteps := 1000000) (disch := first | exact sd | fail) only [go_sem, Nat.reduceAdd, Nat.reduceSub, Nat.reduceLeDiff, ↓reduceIte, decide_eq_true_eq, if_true, if_false, Bool.false_eq_true, Int.lt_irrefl, implies_true, true_and, and_true, eq_self, and_self, beq_self_eq_true]; exact .rfl
  | false => simp (maxSteps := 1000000) (disch := first | exact sd | fail) only [go_sem, Nat.reduceAdd, Nat.reduceSub, Nat.reduceLeDiff, ↓reduceIte, decide_eq_true_eq, if_true, if_false, Bool.false_eq_true, Int.lt_irrefl, implies_true, true_and, and_true, eq_self, and_self, beq_self_eq_true]; exact .rfl
/-- The greater, the less of two. -/
def mxX (a b : XR) : XR := if cx a b < 0 then b else a
def mnX (a b : XR) : XR := if 0 < cx a b then b else a
theorem p103 (h1 : Lr pl) (h2 : Lr ql) (h3 : Lr pl') (h4 : Lr ql') : PC Try.prog 15 [X5 k pn pl qn ql, X5 k' pn' pl' qn' ql'] (Xn (mxX (dx k pn pl qn ql) (dx k' pn' pl' qn' ql'))) := by
  refine PC.of (.cons pu_x5 (.cons pu_x5 .nil)) pu_x fun N hN => ?_
  have q1 := p178 (p179 (k := k) (k' := k') (pn := pn) (qn := qn) (pn' := pn') (qn' := qn') h1 h2 h3 h4)
  have q2 := p176 (k := k) (pn := pn) (qn := qn) h1 h2
  have q3 := p176 (k := k') (pn := pn') (qn := qn') h3 h4
  unfold mxX
  generalize dx k pn pl qn ql = a at *
  generalize dx k' pn' pl' qn' ql' = b at *
  by_cases h : cx a b < 0
  · rw [if_pos h]
    rw [decide_eq_true h, if_pos rfl] at q1
    refine ACalls.of_code T.hm (n := 7) Try.func15 rfl rfl rfl rfl ?_; simp only [List.replicate_succ, List.replicate_zero, List.cons_append, List.nil_append]
    simp (maxSteps := 1000000) (disch := first | exact sd | fail) only [go_sem, Nat.reduceAdd, Nat.reduceSub, Nat.reduceLeDiff, ↓reduceIte, decide_eq_true_eq, if_true, if_false, Bool.false_eq_true, Int.lt_irrefl, implies_true, true_and, and_true, eq_self, and_self, beq_self_eq_true]
    refine PC.step (q1) fun m1 j1 => ?_
    try simp only [Heap.next_push, Heap.next_set, Heap.next_kill, next_bump, next_E0] at j1
    simp (maxSteps := 1000000) (disch := first | exact sd | fail) only [go_sem, Nat.reduceAdd, Nat.reduceSub, Nat.reduceLeDiff, ↓reduceIte, decide_eq_true_eq, if_true, if_false, Bool.false_eq_true, Int.lt_irrefl, implies_true, true_and, and_true, eq_self, and_self, beq_self_eq_true]
    refine PC.step (q3) fun m2 j2 => ?_
    try simp only [Heap.next_push, Heap.next_set, Heap.next_kill, next_bump, next_E0] at j2
    simp (maxSteps := 1000000) (disch := first | exact sd | fail) only [go_sem, Nat.reduceAdd, Nat.reduceSub, Nat.reduceLeDiff, ↓reduceIte, decide_eq_true_eq, if_true, if_false, Bool.false_eq_true, Int.lt_irrefl, implies_true, true_and, and_true, eq_self, and_self, beq_self_eq_true, Xn_eq]
    exact .rfl
  · rw [if_neg h]
    rw [decide_eq_false h, if_neg (by decide)] at q1
    refine ACalls.of_code T.hm (n := 7) Try.func15 rfl rfl rfl rfl ?_; simp only [List.replicate_succ, List.replicate_zero, List.cons_append, List.nil_append]
    simp (maxSteps := 1000000) (disch := first | exact sd | fail) only [go_sem, Nat.reduceAdd, Nat.reduceSub, Nat.reduceLeDiff, ↓reduceIte, decide_eq_true_eq, if_true, if_false, Bool.false_eq_true, Int.lt_irrefl, implies_true, true_and, and_true, eq_self, and_self, beq_self_eq_true]
    refine PC.step (q1) fun m1 j1 => ?_
    try simp only [Heap.next_push, Heap.next_set, Heap.next_kill, next_bump, next_E0] at j1
    simp (maxSteps := 1000000) (disch := first | exact sd | fail) only [go_sem, Nat.reduceAdd, Nat.reduceSub, Nat.reduceLeDiff, ↓reduceIte, decide_eq_true_eq, if_true, if_false, Bool.false_eq_true, Int.lt_irrefl, implies_true, true_and, and_true, eq_self, and_self, beq_self_eq_true]
    refine PC.step (q2) fun m2 j2 => ?_
    try simp only [Heap.next_push, Heap.next_set, Heap.next_kill, next_bump, next_E0] at j2
    simp (maxSteps := 1000000) (disch := first | exact sd | fail) only [go_sem, Nat.reduceAdd, Nat.reduceSub, Nat.reduceLeDiff, ↓reduceIte, decide_eq_true_eq, if_true, if_false, Bool.false_eq_true, Int.lt_irrefl, implies_true, true_and, and_true, eq_self, and_self, beq_self_eq_true, Xn_eq]
    exact .rfl
theorem p104 (h1 : Lr pl) (h2 : Lr ql) (h3 : Lr pl') (h4 : Lr ql') : PC Try.prog 16 [X5 k pn pl qn ql, X5 k' pn' pl' qn' ql'] (Xn (mnX (dx k pn pl qn ql) (dx k' pn' pl' qn' ql'))) := by
  refine PC.of (.cons pu_x5 (.cons pu_x5 .nil)) pu_x fun N hN => ?_
  have q1 := p178 (p180 (k := k) (k' := k') (pn := pn) (qn := qn) (pn' := pn') (qn' := qn') h1 h2 h3 h4)
  have q2 := p176 (k := k) (pn := pn) (qn := qn) h1 h2
  have q3 := p176 (k := k') (pn := pn') (qn := qn') h3 h4
  unfold mnX
  generalize dx k pn pl qn ql = a at *
  generalize dx k' pn' pl' qn' ql' = b at *
  by_cases h : 0 < cx a b
  · rw [if_pos h]
    rw [decide_eq_true h, if_pos rfl] at q1
    refine ACalls.of_code T.hm (n := 7) Try.func16 rfl rfl rfl rfl ?_; simp only [List.replicate_succ, List.replicate_zero, List.cons_append, List.nil_append]
    simp (maxSteps := 1000000) (disch := first | exact sd | fail) only [go_sem, Nat.reduceAdd, Nat.reduceSub, Nat.reduceLeDiff, ↓reduceIte, decide_eq_true_eq, if_true, if_false, Bool.false_eq_true, Int.lt_irrefl, implies_true, true_and, and_true, eq_self, and_self, beq_self_eq_true]
    refine PC.step (q1) fun m1 j1 => ?_
    try simp only [Heap.next_push, Heap.next_set, Heap.next_kill, next_bump, next_E0] at j1
    simp (maxSteps := 1000000) (disch := first | exact sd | fail) only [go_sem, Nat.reduceAdd, Nat.reduceSub, Nat.reduceLeDiff, ↓reduceIte, decide_eq_true_eq, if_true, if_false, Bool.false_eq_true, Int.lt_irrefl, implies_true, true_and, and_true, eq_self, and_self, beq_self_eq_true]
    refine PC.step (q3) fun m2 j2 => ?_
    try simp only [Heap.next_push, Heap.next_set, Heap.next_kill, next_bump, next_E0] at j2
    simp (maxSteps := 1000000) (disch := first | exact sd | fail) only [go_sem, Nat.reduceAdd, Nat.reduceSub, Nat.reduceLeDiff, ↓reduceIte, decide_eq_true_eq, if_true, if_false, Bool.false_eq_true, Int.lt_irrefl, implies_true, true_and, and_true, eq_self, and_self, beq_self_eq_true, Xn_eq]
    exact .rfl
  · rw [if_neg h]
    rw [decide_eq_false h, if_neg (by decide)] at q1
    refine ACalls.of_code T.hm (n := 7) Try.func16 rfl rfl rfl rfl ?_; simp only [List.replicate_succ, List.replicate_zero, List.cons_append, List.nil_append]
    simp (maxSteps := 1000000) (disch := first | exact sd | fail) only [go_sem, Nat.reduceAdd, Nat.reduceSub, Nat.reduceLeDiff, ↓reduceIte, decide_eq_true_eq, if_true, if_false, Bool.false_eq_true, Int.lt_irrefl, implies_true, true_and, and_true, eq_self, and_self, beq_self_eq_true]
    refine PC.step (q1) fun m1 j1 => ?_
    try simp only [Heap.next_push, Heap.next_set, Heap.next_kill, next_bump, next_E0] at j1
    simp (maxSteps := 1000000) (disch := first | exact sd | fail) only [go_sem, Nat.reduceAdd, Nat.reduceSub, Nat.reduceLeDiff, ↓reduceIte, decide_eq_true_eq, if_true, if_false, Bool.false_eq_true, Int.lt_irrefl, implies_true, true_and, and_true, eq_self, and_self, beq_self_eq_true]
    refine PC.step (q2) fun m2 j2 => ?_
    try simp only [Heap.next_push, Heap.next_set, Heap.next_kill, next_bump, next_E0] at j2
    simp (maxSteps := 1000000) (disch := first | exact sd | fail) only [go_sem, Nat.reduceAdd, Nat.reduceSub, Nat.reduceLeDiff, ↓reduceIte, decide_eq_true_eq, if_true, if_false, Bool.false_eq_true, Int.lt_irrefl, implies_true, true_and, and_true, eq_self, and_self, beq_self_eq_true, Xn_eq]
    exact .rfl
/-- One and a quotient. -/
def adX (a : XR) (y : Rat) : XR := match a with
  | .fin x => .fin (x + y)
  | a => a
theorem p106 (h1 : Lr pl) (h2 : Lr ql) (h3 : Lr pl') (h4 : Lr ql') (hb : lx (dx k pn pl qn ql) + lq (dq pn' pl' qn' ql') + 1 ≤ 2 ^ 37) : PC Try.prog 19 [X5 k pn pl qn ql, R4 pn' pl' qn' ql'] (Xn (adX (dx k pn pl qn ql) (dq pn' pl' qn' ql'))) := by
  refine PC.of (.cons pu_x5 (.cons pu_r4 .nil)) pu_x fun N hN => ?_
  have q1 := p176 (k := k) (pn := pn) (qn := qn) h1 h2
  have b1 := lx_dx (k := k) (pn := pn) (qn := qn) h1 h2
  have b2 := h3.q (pn := pn') (qn := qn') h4
  have q2 (x : Rat) (hx : lq x ≤ 2 ^ 37) : PC Try.prog 49 [Qn x, R4 pn' pl' qn' ql'] (Qn (x + dq pn' pl' qn' ql')) := by
    have := p78 (pn := sgn x.num) (qn := sgn x.den) (pn' := pn') (qn' := qn') (Lr.z (lqn hx)) (Lr.z (lqd hx)) h3 h4
    rw [dq_q] at this
    exact this
  generalize hy : dq pn' pl' qn' ql' = y at *
  generalize dx k pn pl qn ql = a at *
  rcases a with _ | x | _
  · refine ACalls.of_code T.hm (n := 14) Try.func19 rfl rfl rfl rfl ?_; simp only [List.replicate_succ, List.replicate_zero, List.cons_append, List.nil_append]
    simp (maxSteps := 1000000) (disch := first | exact sd | fail) only [go_sem, Nat.reduceAdd, Nat.reduceSub, Nat.reduceLeDiff, ↓reduceIte, decide_eq_true_eq, if_true, if_false, Bool.false_eq_true, Int.lt_irrefl, implies_true, true_and, and_true, eq_self, and_self, beq_self_eq_true]
    refine PC.step (q1) fun m1 j1 => ?_
    try simp only [Heap.next_push, Heap.next_set, Heap.next_kill, next_bump, next_E0] at j1
    simp (maxSteps := 1000000) (disch := first | exact sd | fail) only [go_sem, Nat.reduceAdd, Nat.reduceSub, Nat.reduceLeDiff, ↓reduceIte, decide_eq_true_eq, if_true, if_false, Bool.false_eq_true, Int.lt_irrefl, implies_true, true_and, and_true, eq_self, and_self, beq_self_eq_true, show ¬ (-1 : Int) = 0 by decide, ne_eq, not_false_eq_true]
    exact .rfl
  · have b1 : lq x ≤ 2 ^ 37 := b1
    have hb : lq x + lq y + 1 ≤ 2 ^ 37 := hb
    have b3 := lq_add x y
    refine ACalls.of_code T.hm (n := 14) Try.func19 rfl rfl rfl rfl ?_; simp only [List.replicate_succ, List.replicate_zero, List.cons_append, List.nil_append]
    simp (maxSteps := 1000000) (disch := first | exact sd | fail) only [go_sem, Nat.reduceAdd, Nat.reduceSub, Nat.reduceLeDiff, ↓reduceIte, decide_eq_true_eq, if_true, if_false, Bool.false_eq_true, Int.lt_irrefl, implies_true, true_and, and_true, eq_self, and_self, beq_self_eq_true]
    refine PC.step (q1) fun m1 j1 => ?_
    try simp only [Heap.next_push, Heap.next_set, Heap.next_kill, next_bump, next_E0] at j1
    simp (maxSteps := 1000000) (disch := first | exact sd | fail) only [go_sem, Nat.reduceAdd, Nat.reduceSub, Nat.reduceLeDiff, ↓reduceIte, decide_eq_true_eq, if_true, if_false, Bool.false_eq_true, Int.lt_irrefl, implies_true, true_and, and_true, eq_self, and_self, beq_self_eq_true, ne_eq, not_true_eq_false]
    refine PC.step (q2 x b1) fun m2 j2 => ?_
    try simp only [Heap.next_push, Heap.next_set, Heap.next_kill, next_bump, next_E0] at j2
    simp (maxSteps := 1000000) (disch := first | exact sd | fail) only [go_sem, Nat.reduceAdd, Nat.reduceSub, Nat.reduceLeDiff, ↓reduceIte, decide_eq_true_eq, if_true, if_false, Bool.false_eq_true, Int.lt_irrefl, implies_true, true_and, and_true, eq_self, and_self, beq_self_eq_true]
    have q3 := s114 (pn := sgn (x + y).num) (pl := lmb (x + y).num) (qn := sgn (x + y).den) (ql := lmb (x + y).den) (Lr.z (lqn (K := 2 ^ 37) (by omega))) (Lr.z (lqd (K := 2 ^ 37) (by omega)))
    rw [dq_q] at q3
    refine PC.step (q3) fun m3 j3 => ?_
    try simp only [Heap.next_push, Heap.next_set, Heap.next_kill, next_bump, next_E0] at j3
    simp (maxSteps := 1000000) (disch := first | exact sd | fail) only [go_sem, Nat.reduceAdd, Nat.reduceSub, Nat.reduceLeDiff, ↓reduceIte, decide_eq_true_eq, if_true, if_false, Bool.false_eq_true, Int.lt_irrefl, implies_true, true_and, and_true, eq_self, and_self, beq_self_eq_true]
    exact .rfl
  · refine ACalls.of_code T.hm (n := 14) Try.func19 rfl rfl rfl rfl ?_; simp only [List.replicate_succ, List.replicate_zero, List.cons_append, List.nil_append]
    simp (maxSteps := 1000000) (disch := first | exact sd | fail) only [go_sem, Nat.reduceAdd, Nat.reduceSub, Nat.reduceLeDiff, ↓reduceIte, decide_eq_true_eq, if_true, if_false, Bool.false_eq_true, Int.lt_irrefl, implies_true, true_and, and_true, eq_self, and_self, beq_self_eq_true]
    refine PC.step (q1) fun m1 j1 => ?_
    try simp only [Heap.next_push, Heap.next_set, Heap.next_kill, next_bump, next_E0] at j1
    simp (maxSteps := 1000000) (disch := first | exact sd | fail) only [go_sem, Nat.reduceAdd, Nat.reduceSub, Nat.reduceLeDiff, ↓reduceIte, decide_eq_true_eq, if_true, if_false, Bool.false_eq_true, Int.lt_irrefl, implies_true, true_and, and_true, eq_self, and_self, beq_self_eq_true, show ¬ (1 : Int) = 0 by decide, ne_eq, not_false_eq_true]
    exact .rfl
end Go.Abs
