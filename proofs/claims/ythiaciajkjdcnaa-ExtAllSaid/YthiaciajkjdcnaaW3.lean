/- The document's quotients with two ends. -/
import Derived.Test.YthiaciajkjdcnaaW2
set_option linter.unusedVariables false
set_option linter.unusedSimpArgs false
namespace Go.Abs
open Go Go.Proofs
set_option maxRecDepth 100000
set_option maxHeartbeats 4000000
variable {pn qn pn' qn' : Bool} {pl ql pl' ql' : List Int} {k k' : Int} {H : Heap} {K : Value → Heap → Prop}
theorem zeroQ_form (h : zeroQ pn pl qn ql = true) : pn = false ∧ pl = [] ∧ qn = false ∧ ql = [] := by
  simp only [zeroQ, Bool.and_eq_true, Bool.not_eq_true', decide_eq_true_eq] at h
  exact ⟨h.1.1.1, List.length_eq_zero_iff.1 h.1.1.2, h.1.2, List.length_eq_zero_iff.1 h.2⟩
theorem xv_lo : xv .lo = ⟨-1, ⟨⟨false, []⟩, ⟨false, []⟩⟩⟩ := _root_.id rfl
theorem xv_hi : xv .hi = ⟨1, ⟨⟨false, []⟩, ⟨false, []⟩⟩⟩ := _root_.id rfl
theorem xv_fin {x : Rat} : xv (.fin x) = ⟨0, ⟨⟨sgn x.num, lmb x.num⟩, ⟨sgn x.den, lmb x.den⟩⟩⟩ := _root_.id rfl
theorem p182 : PC Try.prog 53 [R4 pn pl qn ql] (.bool (zeroQ pn pl qn ql)) := by
  refine PC.of (.cons pu_r4 .nil) (.ground rfl) fun N hN => ?_
  unfold zeroQ
  refine ACalls.of_code T.hm (n := 26) Try.func53 rfl rfl rfl rfl ?_; simp only [List.replicate_succ, List.replicate_zero, List.cons_append, List.nil_append]
  by_cases h : (pl.length : Int) = 0
  · have h' : pl.length = 0 := by omega
    cases pn with
    | true => simp (maxSteps := 1000000) (disch := first | exact sd | fail) only [go_sem, Nat.reduceAdd, Nat.reduceSub, Nat.reduceLeDiff, ↓reduceIte, decide_eq_true_eq, if_true, if_false, Bool.false_eq_true, Int.lt_irrefl, implies_true, true_and, and_true, eq_self, and_self, beq_self_eq_true, h, Bool.not_true, Bool.false_and]; exact .rfl
    | false =>
      by_cases h2 : (ql.length : Int) = 0
      · have h2' : ql.length = 0 := by omega
        cases qn with
        | true => simp (maxSteps := 1000000) (disch := first | exact sd | fail) only [go_sem, Nat.reduceAdd, Nat.reduceSub, Nat.reduceLeDiff, ↓reduceIte, decide_eq_true_eq, if_true, if_false, Bool.false_eq_true, Int.lt_irrefl, implies_true, true_and, and_true, eq_self, and_self, beq_self_eq_true, h, h2, Bool.not_true, Bool.not_false, Bool.and_false, Bool.true_and, Bool.false_and, Bool.and_true]; exact .rfl
        | false => simp (maxSteps := 1000000) (disch := first | exact sd | fail) only [go_sem, Nat.reduceAdd, Nat.reduceSub, Nat.reduceLeDiff, ↓reduceIte, decide_eq_true_eq, if_true, if_false, Bool.false_eq_true, Int.lt_irrefl, implies_true, true_and, and_true, eq_self, and_self, beq_self_eq_true, h, h2, Bool.not_true, Bool.not_false, Bool.and_false, Bool.true_and, Bool.false_and, Bool.and_true]; rw [h', h2']; exact .rfl
      · have h2' : ¬ ql.length = 0 := by omega
        simp (maxSteps := 1000000) (disch := first | exact sd | fail) only [go_sem, Nat.reduceAdd, Nat.reduceSub, Nat.reduceLeDiff, ↓reduceIte, decide_eq_true_eq, if_true, if_false, Bool.false_eq_true, Int.lt_irrefl, implies_true, true_and, and_true, eq_self, and_self, beq_self_eq_true, h, h2, Bool.not_true, Bool.not_false, Bool.and_false, Bool.false_and, h2', decide_false]; exact .rfl
  · have h' : ¬ pl.length = 0 := by omega
    simp (maxSteps := 1000000) (disch := first | exact sd | fail) only [go_sem, Nat.reduceAdd, Nat.reduceSub, Nat.reduceLeDiff, ↓reduceIte, decide_eq_true_eq, if_true, if_false, Bool.false_eq_true, Int.lt_irrefl, implies_true, true_and, and_true, eq_self, and_self, beq_self_eq_true, h, h', decide_false, Bool.and_false, Bool.false_and]; exact .rfl
theorem p108 (h1 : Lb pl) (h2 : Lb ql) (k1 : pl.length ≤ 2 ^ 39) (k2 : ql.length ≤ 2 ^ 39) : PC Try.prog 21 [X5 k pn pl qn ql] (.bool (mayX k pn pl qn ql)) := by
  refine PC.of (.cons pu_x5 .nil) (.ground rfl) fun N hN => ?_
  have q1 := p182 (pn := pn) (pl := pl) (qn := qn) (ql := ql)
  have q2 := p74 (pn := pn) (qn := qn) h1 h2 k1 k2
  unfold mayX
  by_cases c0 : k = 0
  · subst c0
    rw [if_pos rfl]
    refine ACalls.of_code T.hm (n := 21) Try.func21 rfl rfl rfl rfl ?_; simp only [List.replicate_succ, List.replicate_zero, List.cons_append, List.nil_append]
    simp (maxSteps := 1000000) (disch := first | exact sd | fail) only [go_sem, Nat.reduceAdd, Nat.reduceSub, Nat.reduceLeDiff, ↓reduceIte, decide_eq_true_eq, if_true, if_false, Bool.false_eq_true, Int.lt_irrefl, implies_true, true_and, and_true, eq_self, and_self, beq_self_eq_true]
    refine PC.step (q2) fun m1 j1 => ?_
    try simp only [Heap.next_push, Heap.next_set, Heap.next_kill, next_bump, next_E0] at j1
    simp (maxSteps := 1000000) (disch := first | exact sd | fail) only [go_sem, Nat.reduceAdd, Nat.reduceSub, Nat.reduceLeDiff, ↓reduceIte, decide_eq_true_eq, if_true, if_false, Bool.false_eq_true, Int.lt_irrefl, implies_true, true_and, and_true, eq_self, and_self, beq_self_eq_true]
    exact .rfl
  · rw [if_neg c0]
    by_cases c1 : k = 1
    · subst c1
      rw [if_pos (.inl rfl)]
      refine ACalls.of_code T.hm (n := 21) Try.func21 rfl rfl rfl rfl ?_; simp only [List.replicate_succ, List.replicate_zero, List.cons_append, List.nil_append]
      simp (maxSteps := 1000000) (disch := first | exact sd | fail) only [go_sem, Nat.reduceAdd, Nat.reduceSub, Nat.reduceLeDiff, ↓reduceIte, decide_eq_true_eq, if_true, if_false, Bool.false_eq_true, Int.lt_irrefl, implies_true, true_and, and_true, eq_self, and_self, beq_self_eq_true, show ¬ (1 : Int) = 0 by decide]
      refine PC.step (q1) fun m1 j1 => ?_
      try simp only [Heap.next_push, Heap.next_set, Heap.next_kill, next_bump, next_E0] at j1
      simp (maxSteps := 1000000) (disch := first | exact sd | fail) only [go_sem, Nat.reduceAdd, Nat.reduceSub, Nat.reduceLeDiff, ↓reduceIte, decide_eq_true_eq, if_true, if_false, Bool.false_eq_true, Int.lt_irrefl, implies_true, true_and, and_true, eq_self, and_self, beq_self_eq_true]
      exact .rfl
    · by_cases c2 : k = -1
      · subst c2
        rw [if_pos (.inr rfl)]
        refine ACalls.of_code T.hm (n := 21) Try.func21 rfl rfl rfl rfl ?_; simp only [List.replicate_succ, List.replicate_zero, List.cons_append, List.nil_append]
        simp (maxSteps := 1000000) (disch := first | exact sd | fail) only [go_sem, Nat.reduceAdd, Nat.reduceSub, Nat.reduceLeDiff, ↓reduceIte, decide_eq_true_eq, if_true, if_false, Bool.false_eq_true, Int.lt_irrefl, implies_true, true_and, and_true, eq_self, and_self, beq_self_eq_true, show ¬ (-1 : Int) = 0 by decide, show ¬ (-1 : Int) = 1 by decide]
        refine PC.step (q1) fun m1 j1 => ?_
        try simp only [Heap.next_push, Heap.next_set, Heap.next_kill, next_bump, next_E0] at j1
        simp (maxSteps := 1000000) (disch := first | exact sd | fail) only [go_sem, Nat.reduceAdd, Nat.reduceSub, Nat.reduceLeDiff, ↓reduceIte, decide_eq_true_eq, if_true, if_false, Bool.false_eq_true, Int.lt_irrefl, implies_true, true_and, and_true, eq_self, and_self, beq_self_eq_true]
        exact .rfl
      · rw [if_neg (by rintro (h | h) <;> contradiction)]
        refine ACalls.of_code T.hm (n := 21) Try.func21 rfl rfl rfl rfl ?_; simp only [List.replicate_succ, List.replicate_zero, List.cons_append, List.nil_append]
        simp (maxSteps := 1000000) (disch := first | exact sd | fail) only [go_sem, Nat.reduceAdd, Nat.reduceSub, Nat.reduceLeDiff, ↓reduceIte, decide_eq_true_eq, if_true, if_false, Bool.false_eq_true, Int.lt_irrefl, implies_true, true_and, and_true, eq_self, and_self, beq_self_eq_true, c0, c1, c2]
        exact .rfl
theorem p183 (h1 : Lr pl) (h2 : Lr ql) : PC Try.prog 54 [X5 k pn pl qn ql] (Xn (dx k pn pl qn ql)) := by
  refine PC.of (.cons pu_x5 .nil) pu_x fun N hN => ?_
  have q1 := p108 (k := k) (pn := pn) (qn := qn) h1.lb h2.lb (by have := h1.2; omega) (by have := h2.2; omega)
  unfold dx
  cases hm : mayX k pn pl qn ql with
  | false =>
    rw [hm] at q1
    rw [if_neg (by decide)]
    refine ACalls.of_code T.hm (n := 15) Try.func54 rfl rfl rfl rfl ?_; simp only [List.replicate_succ, List.replicate_zero, List.cons_append, List.nil_append]
    simp (maxSteps := 1000000) (disch := first | exact sd | fail) only [go_sem, Nat.reduceAdd, Nat.reduceSub, Nat.reduceLeDiff, ↓reduceIte, decide_eq_true_eq, if_true, if_false, Bool.false_eq_true, Int.lt_irrefl, implies_true, true_and, and_true, eq_self, and_self, beq_self_eq_true]
    refine PC.step (q1) fun m1 j1 => ?_
    try simp only [Heap.next_push, Heap.next_set, Heap.next_kill, next_bump, next_E0] at j1
    simp (maxSteps := 1000000) (disch := first | exact sd | fail) only [go_sem, Nat.reduceAdd, Nat.reduceSub, Nat.reduceLeDiff, ↓reduceIte, decide_eq_true_eq, if_true, if_false, Bool.false_eq_true, Int.lt_irrefl, implies_true, true_and, and_true, eq_self, and_self, beq_self_eq_true, Bool.not_false]
    refine PC.step (p173) fun m2 j2 => ?_
    try simp only [Heap.next_push, Heap.next_set, Heap.next_kill, next_bump, next_E0] at j2
    simp (maxSteps := 1000000) (disch := first | exact sd | fail) only [go_sem, Nat.reduceAdd, Nat.reduceSub, Nat.reduceLeDiff, ↓reduceIte, decide_eq_true_eq, if_true, if_false, Bool.false_eq_true, Int.lt_irrefl, implies_true, true_and, and_true, eq_self, and_self, beq_self_eq_true]
    exact .rfl
  | true =>
    rw [hm] at q1
    rw [if_pos rfl]
    have q2 := p171 (pn := pn) (qn := qn) h1.lb h2.lb (by have := h1.2; omega) (by have := h2.2; omega)
    by_cases c0 : k = 0
    · subst c0
      rw [if_pos rfl]
      refine ACalls.of_code T.hm (n := 15) Try.func54 rfl rfl rfl rfl ?_; simp only [List.replicate_succ, List.replicate_zero, List.cons_append, List.nil_append]
      simp (maxSteps := 1000000) (disch := first | exact sd | fail) only [go_sem, Nat.reduceAdd, Nat.reduceSub, Nat.reduceLeDiff, ↓reduceIte, decide_eq_true_eq, if_true, if_false, Bool.false_eq_true, Int.lt_irrefl, implies_true, true_and, and_true, eq_self, and_self, beq_self_eq_true]
      refine PC.step (q1) fun m1 j1 => ?_
      try simp only [Heap.next_push, Heap.next_set, Heap.next_kill, next_bump, next_E0] at j1
      simp (maxSteps := 1000000) (disch := first | exact sd | fail) only [go_sem, Nat.reduceAdd, Nat.reduceSub, Nat.reduceLeDiff, ↓reduceIte, decide_eq_true_eq, if_true, if_false, Bool.false_eq_true, Int.lt_irrefl, implies_true, true_and, and_true, eq_self, and_self, beq_self_eq_true, Bool.not_true, ne_eq, not_true_eq_false]
      refine PC.step (q2) fun m2 j2 => ?_
      try simp only [Heap.next_push, Heap.next_set, Heap.next_kill, next_bump, next_E0] at j2
      simp (maxSteps := 1000000) (disch := first | exact sd | fail) only [go_sem, Nat.reduceAdd, Nat.reduceSub, Nat.reduceLeDiff, ↓reduceIte, decide_eq_true_eq, if_true, if_false, Bool.false_eq_true, Int.lt_irrefl, implies_true, true_and, and_true, eq_self, and_self, beq_self_eq_true]
      exact .rfl
    · rw [if_neg c0]
      have hz : (k = 1 ∨ k = -1) ∧ zeroQ pn pl qn ql = true := by
        unfold mayX at hm
        rw [if_neg c0] at hm
        split at hm
        · rename_i h; exact ⟨h, hm⟩
        · cases hm
      obtain ⟨hk, hz⟩ := hz
      obtain ⟨rfl, rfl, rfl, rfl⟩ := zeroQ_form hz
      rcases hk with rfl | rfl
      · rw [if_pos rfl]
        refine ACalls.of_code T.hm (n := 15) Try.func54 rfl rfl rfl rfl ?_; simp only [List.replicate_succ, List.replicate_zero, List.cons_append, List.nil_append]
        simp (maxSteps := 1000000) (disch := first | exact sd | fail) only [go_sem, Nat.reduceAdd, Nat.reduceSub, Nat.reduceLeDiff, ↓reduceIte, decide_eq_true_eq, if_true, if_false, Bool.false_eq_true, Int.lt_irrefl, implies_true, true_and, and_true, eq_self, and_self, beq_self_eq_true]
        refine PC.step (q1) fun m1 j1 => ?_
        try simp only [Heap.next_push, Heap.next_set, Heap.next_kill, next_bump, next_E0] at j1
        simp (maxSteps := 1000000) (disch := first | exact sd | fail) only [go_sem, Nat.reduceAdd, Nat.reduceSub, Nat.reduceLeDiff, ↓reduceIte, decide_eq_true_eq, if_true, if_false, Bool.false_eq_true, Int.lt_irrefl, implies_true, true_and, and_true, eq_self, and_self, beq_self_eq_true, Bool.not_true, show ¬ (1 : Int) = 0 by decide, ne_eq, not_false_eq_true]
        exact .rfl
      · rw [if_neg (by decide)]
        refine ACalls.of_code T.hm (n := 15) Try.func54 rfl rfl rfl rfl ?_; simp only [List.replicate_succ, List.replicate_zero, List.cons_append, List.nil_append]
        simp (maxSteps := 1000000) (disch := first | exact sd | fail) only [go_sem, Nat.reduceAdd, Nat.reduceSub, Nat.reduceLeDiff, ↓reduceIte, decide_eq_true_eq, if_true, if_false, Bool.false_eq_true, Int.lt_irrefl, implies_true, true_and, and_true, eq_self, and_self, beq_self_eq_true]
        refine PC.step (q1) fun m1 j1 => ?_
        try simp only [Heap.next_push, Heap.next_set, Heap.next_kill, next_bump, next_E0] at j1
        simp (maxSteps := 1000000) (disch := first | exact sd | fail) only [go_sem, Nat.reduceAdd, Nat.reduceSub, Nat.reduceLeDiff, ↓reduceIte, decide_eq_true_eq, if_true, if_false, Bool.false_eq_true, Int.lt_irrefl, implies_true, true_and, and_true, eq_self, and_self, beq_self_eq_true, Bool.not_true, show ¬ (-1 : Int) = 0 by decide, ne_eq, not_false_eq_true]
        exact .rfl
theorem p109 (h1 : Lr pl) (h2 : Lr ql) (h3 : Lr pl') (h4 : Lr ql') : PC Try.prog 22 [X5 k pn pl qn ql, X5 k' pn' pl' qn' ql'] (.int .i64 (cx (dx k pn pl qn ql) (dx k' pn' pl' qn' ql'))) := by
  refine PC.of (.cons pu_x5 (.cons pu_x5 .nil)) (.ground rfl) fun N hN => ?_
  have q1 := p183 (k := k) (pn := pn) (qn := qn) h1 h2
  have q2 := p183 (k := k') (pn := pn') (qn := qn') h3 h4
  have b1 := lx_dx (k := k) (pn := pn) (qn := qn) h1 h2
  have b2 := lx_dx (k := k') (pn := pn') (qn := qn') h3 h4
  generalize dx k pn pl qn ql = a at *
  generalize dx k' pn' pl' qn' ql' = b at *
  refine ACalls.of_code T.hm (n := 25) Try.func22 rfl rfl rfl rfl ?_; simp only [List.replicate_succ, List.replicate_zero, List.cons_append, List.nil_append]
  simp (maxSteps := 1000000) (disch := first | exact sd | fail) only [go_sem, Nat.reduceAdd, Nat.reduceSub, Nat.reduceLeDiff, ↓reduceIte, decide_eq_true_eq, if_true, if_false, Bool.false_eq_true, Int.lt_irrefl, implies_true, true_and, and_true, eq_self, and_self, beq_self_eq_true]
  refine PC.step (q1) fun m1 j1 => ?_
  try simp only [Heap.next_push, Heap.next_set, Heap.next_kill, next_bump, next_E0] at j1
  simp (maxSteps := 1000000) (disch := first | exact sd | fail) only [go_sem, Nat.reduceAdd, Nat.reduceSub, Nat.reduceLeDiff, ↓reduceIte, decide_eq_true_eq, if_true, if_false, Bool.false_eq_true, Int.lt_irrefl, implies_true, true_and, and_true, eq_self, and_self, beq_self_eq_true, Xn_eq]
  refine PC.step (q2) fun m2 j2 => ?_
  try simp only [Heap.next_push, Heap.next_set, Heap.next_kill, next_bump, next_E0] at j2
  rcases a with _ | x | _ <;> rcases b with _ | y | _
  · simp (maxSteps := 1000000) (disch := first | exact sd | fail) only [go_sem, Nat.reduceAdd, Nat.reduceSub, Nat.reduceLeDiff, ↓reduceIte, decide_eq_true_eq, if_true, if_false, Bool.false_eq_true, Int.lt_irrefl, implies_true, true_and, and_true, eq_self, and_self, beq_self_eq_true, xv_lo, xv_hi, xv_fin, show ¬ (-1 : Int) < -1 by decide, show ¬ (-1 : Int) = 0 by decide, ne_eq, not_false_eq_true, not_true_eq_false]; exact .rfl
  · simp (maxSteps := 1000000) (disch := first | exact sd | fail) only [go_sem, Nat.reduceAdd, Nat.reduceSub, Nat.reduceLeDiff, ↓reduceIte, decide_eq_true_eq, if_true, if_false, Bool.false_eq_true, Int.lt_irrefl, implies_true, true_and, and_true, eq_self, and_self, beq_self_eq_true, xv_lo, xv_hi, xv_fin, show (-1 : Int) < 0 by decide, show ¬ (-1 : Int) = 0 by decide, ne_eq, not_false_eq_true]; exact .rfl
  · simp (maxSteps := 1000000) (disch := first | exact sd | fail) only [go_sem, Nat.reduceAdd, Nat.reduceSub, Nat.reduceLeDiff, ↓reduceIte, decide_eq_true_eq, if_true, if_false, Bool.false_eq_true, Int.lt_irrefl, implies_true, true_and, and_true, eq_self, and_self, beq_self_eq_true, xv_lo, xv_hi, xv_fin, show (-1 : Int) < 1 by decide, show ¬ (-1 : Int) = 1 by decide, ne_eq, not_false_eq_true]; exact .rfl
  · simp (maxSteps := 1000000) (disch := first | exact sd | fail) only [go_sem, Nat.reduceAdd, Nat.reduceSub, Nat.reduceLeDiff, ↓reduceIte, decide_eq_true_eq, if_true, if_false, Bool.false_eq_true, Int.lt_irrefl, implies_true, true_and, and_true, eq_self, and_self, beq_self_eq_true, xv_lo, xv_hi, xv_fin, show ¬ (0 : Int) < -1 by decide, show (-1 : Int) < 0 by decide, show ¬ (0 : Int) = -1 by decide, ne_eq, not_false_eq_true]; exact .rfl
  · simp (maxSteps := 1000000) (disch := first | exact sd | fail) only [go_sem, Nat.reduceAdd, Nat.reduceSub, Nat.reduceLeDiff, ↓reduceIte, decide_eq_true_eq, if_true, if_false, Bool.false_eq_true, Int.lt_irrefl, implies_true, true_and, and_true, eq_self, and_self, beq_self_eq_true, xv_lo, xv_hi, xv_fin, show ¬ (0 : Int) < 0 by decide, ne_eq, not_true_eq_false]
    refine PC.step (p98q (x := x) (y := y) b1 b2) fun m3 j3 => ?_
    try simp only [Heap.next_push, Heap.next_set, Heap.next_kill, next_bump, next_E0] at j3
    simp (maxSteps := 1000000) (disch := first | exact sd | fail) only [go_sem, Nat.reduceAdd, Nat.reduceSub, Nat.reduceLeDiff, ↓reduceIte, decide_eq_true_eq, if_true, if_false, Bool.false_eq_true, Int.lt_irrefl, implies_true, true_and, and_true, eq_self, and_self, beq_self_eq_true]
    exact .rfl
  · simp (maxSteps := 1000000) (disch := first | exact sd | fail) only [go_sem, Nat.reduceAdd, Nat.reduceSub, Nat.reduceLeDiff, ↓reduceIte, decide_eq_true_eq, if_true, if_false, Bool.false_eq_true, Int.lt_irrefl, implies_true, true_and, and_true, eq_self, and_self, beq_self_eq_true, xv_lo, xv_hi, xv_fin, show (0 : Int) < 1 by decide, show ¬ (0 : Int) = 1 by decide, ne_eq, not_false_eq_true]; exact .rfl
  · simp (maxSteps := 1000000) (disch := first | exact sd | fail) only [go_sem, Nat.reduceAdd, Nat.reduceSub, Nat.reduceLeDiff, ↓reduceIte, decide_eq_true_eq, if_true, if_false, Bool.false_eq_true, Int.lt_irrefl, implies_true, true_and, and_true, eq_self, and_self, beq_self_eq_true, xv_lo, xv_hi, xv_fin, show ¬ (1 : Int) < -1 by decide, show (-1 : Int) < 1 by decide, show ¬ (1 : Int) = -1 by decide, ne_eq, not_false_eq_true]; exact .rfl
  · simp (maxSteps := 1000000) (disch := first | exact sd | fail) only [go_sem, Nat.reduceAdd, Nat.reduceSub, Nat.reduceLeDiff, ↓reduceIte, decide_eq_true_eq, if_true, if_false, Bool.false_eq_true, Int.lt_irrefl, implies_true, true_and, and_true, eq_self, and_self, beq_self_eq_true, xv_lo, xv_hi, xv_fin, show ¬ (1 : Int) < 0 by decide, show (0 : Int) < 1 by decide, show ¬ (1 : Int) = 0 by decide, ne_eq, not_false_eq_true]; exact .rfl
  · simp (maxSteps := 1000000) (disch := first | exact sd | fail) only [go_sem, Nat.reduceAdd, Nat.reduceSub, Nat.reduceLeDiff, ↓reduceIte, decide_eq_true_eq, if_true, if_false, Bool.false_eq_true, Int.lt_irrefl, implies_true, true_and, and_true, eq_self, and_self, beq_self_eq_true, xv_lo, xv_hi, xv_fin, show ¬ (1 : Int) < 1 by decide, show ¬ (1 : Int) = 0 by decide, ne_eq, not_false_eq_true, not_true_eq_false]; exact .rfl
theorem p110 (h1 : Lr pl) (h2 : Lr ql) (h3 : Lr pl') (h4 : Lr ql') : PC Try.prog 23 [X5 k pn pl qn ql, X5 k' pn' pl' qn' ql'] (Xn (mxX (dx k pn pl qn ql) (dx k' pn' pl' qn' ql'))) := by
  refine PC.of (.cons pu_x5 (.cons pu_x5 .nil)) pu_x fun N hN => ?_
  have q1 := p109 (k := k) (k' := k') (pn := pn) (qn := qn) (pn' := pn') (qn' := qn') h1 h2 h3 h4
  have q2 := p183 (k := k) (pn := pn) (qn := qn) h1 h2
  have q3 := p183 (k := k') (pn := pn') (qn := qn') h3 h4
  unfold mxX
  generalize dx k pn pl qn ql = a at *
  generalize dx k' pn' pl' qn' ql' = b at *
  by_cases h : cx a b < 0
  · rw [if_pos h]
    refine ACalls.of_code T.hm (n := 11) Try.func23 rfl rfl rfl rfl ?_; simp only [List.replicate_succ, List.replicate_zero, List.cons_append, List.nil_append]
    simp (maxSteps := 1000000) (disch := first | exact sd | fail) only [go_sem, Nat.reduceAdd, Nat.reduceSub, Nat.reduceLeDiff, ↓reduceIte, decide_eq_true_eq, if_true, if_false, Bool.false_eq_true, Int.lt_irrefl, implies_true, true_and, and_true, eq_self, and_self, beq_self_eq_true]
    refine PC.step (q1) fun m1 j1 => ?_
    try simp only [Heap.next_push, Heap.next_set, Heap.next_kill, next_bump, next_E0] at j1
    simp (maxSteps := 1000000) (disch := first | exact sd | fail) only [go_sem, Nat.reduceAdd, Nat.reduceSub, Nat.reduceLeDiff, ↓reduceIte, decide_eq_true_eq, if_true, if_false, Bool.false_eq_true, Int.lt_irrefl, implies_true, true_and, and_true, eq_self, and_self, beq_self_eq_true, show ¬ (0 : Int) ≤ cx a b by omega]
    refine PC.step (q3) fun m2 j2 => ?_
    try simp only [Heap.next_push, Heap.next_set, Heap.next_kill, next_bump, next_E0] at j2
    simp (maxSteps := 1000000) (disch := first | exact sd | fail) only [go_sem, Nat.reduceAdd, Nat.reduceSub, Nat.reduceLeDiff, ↓reduceIte, decide_eq_true_eq, if_true, if_false, Bool.false_eq_true, Int.lt_irrefl, implies_true, true_and, and_true, eq_self, and_self, beq_self_eq_true, Xn_eq]
    exact .rfl
  · rw [if_neg h]
    refine ACalls.of_code T.hm (n := 11) Try.func23 rfl rfl rfl rfl ?_; simp only [List.replicate_succ, List.replicate_zero, List.cons_append, List.nil_append]
    simp (maxSteps := 1000000) (disch := first | exact sd | fail) only [go_sem, Nat.reduceAdd, Nat.reduceSub, Nat.reduceLeDiff, ↓reduceIte, decide_eq_true_eq, if_true, if_false, Bool.false_eq_true, Int.lt_irrefl, implies_true, true_and, and_true, eq_self, and_self, beq_self_eq_true]
    refine PC.step (q1) fun m1 j1 => ?_
    try simp only [Heap.next_push, Heap.next_set, Heap.next_kill, next_bump, next_E0] at j1
    simp (maxSteps := 1000000) (disch := first | exact sd | fail) only [go_sem, Nat.reduceAdd, Nat.reduceSub, Nat.reduceLeDiff, ↓reduceIte, decide_eq_true_eq, if_true, if_false, Bool.false_eq_true, Int.lt_irrefl, implies_true, true_and, and_true, eq_self, and_self, beq_self_eq_true, show (0 : Int) ≤ cx a b by omega]
    refine PC.step (q2) fun m2 j2 => ?_
    try simp only [Heap.next_push, Heap.next_set, Heap.next_kill, next_bump, next_E0] at j2
    simp (maxSteps := 1000000) (disch := first | exact sd | fail) only [go_sem, Nat.reduceAdd, Nat.reduceSub, Nat.reduceLeDiff, ↓reduceIte, decide_eq_true_eq, if_true, if_false, Bool.false_eq_true, Int.lt_irrefl, implies_true, true_and, and_true, eq_self, and_self, beq_self_eq_true, Xn_eq]
    exact .rfl
theorem p111 (h1 : Lr pl) (h2 : Lr ql) (h3 : Lr pl') (h4 : Lr ql') : PC Try.prog 24 [X5 k pn pl qn ql, X5 k' pn' pl' qn' ql'] (Xn (mnX (dx k pn pl qn ql) (dx k' pn' pl' qn' ql'))) := by
  refine PC.of (.cons pu_x5 (.cons pu_x5 .nil)) pu_x fun N hN => ?_
  have q1 := p109 (k := k) (k' := k') (pn := pn) (qn := qn) (pn' := pn') (qn' := qn') h1 h2 h3 h4
  have q2 := p183 (k := k) (pn := pn) (qn := qn) h1 h2
  have q3 := p183 (k := k') (pn := pn') (qn := qn') h3 h4
  unfold mnX
  generalize dx k pn pl qn ql = a at *
  generalize dx k' pn' pl' qn' ql' = b at *
  by_cases h : 0 < cx a b
  · rw [if_pos h]
    refine ACalls.of_code T.hm (n := 11) Try.func24 rfl rfl rfl rfl ?_; simp only [List.replicate_succ, List.replicate_zero, List.cons_append, List.nil_append]
    simp (maxSteps := 1000000) (disch := first | exact sd | fail) only [go_sem, Nat.reduceAdd, Nat.reduceSub, Nat.reduceLeDiff, ↓reduceIte, decide_eq_true_eq, if_true, if_false, Bool.false_eq_true, Int.lt_irrefl, implies_true, true_and, and_true, eq_self, and_self, beq_self_eq_true]
    refine PC.step (q1) fun m1 j1 => ?_
    try simp only [Heap.next_push, Heap.next_set, Heap.next_kill, next_bump, next_E0] at j1
    simp (maxSteps := 1000000) (disch := first | exact sd | fail) only [go_sem, Nat.reduceAdd, Nat.reduceSub, Nat.reduceLeDiff, ↓reduceIte, decide_eq_true_eq, if_true, if_false, Bool.false_eq_true, Int.lt_irrefl, implies_true, true_and, and_true, eq_self, and_self, beq_self_eq_true, show ¬ cx a b ≤ (0 : Int) by omega]
    refine PC.step (q3) fun m2 j2 => ?_
    try simp only [Heap.next_push, Heap.next_set, Heap.next_kill, next_bump, next_E0] at j2
    simp (maxSteps := 1000000) (disch := first | exact sd | fail) only [go_sem, Nat.reduceAdd, Nat.reduceSub, Nat.reduceLeDiff, ↓reduceIte, decide_eq_true_eq, if_true, if_false, Bool.false_eq_true, Int.lt_irrefl, implies_true, true_and, and_true, eq_self, and_self, beq_self_eq_true, Xn_eq]
    exact .rfl
  · rw [if_neg h]
    refine ACalls.of_code T.hm (n := 11) Try.func24 rfl rfl rfl rfl ?_; simp only [List.replicate_succ, List.replicate_zero, List.cons_append, List.nil_append]
    simp (maxSteps := 1000000) (disch := first | exact sd | fail) only [go_sem, Nat.reduceAdd, Nat.reduceSub, Nat.reduceLeDiff, ↓reduceIte, decide_eq_true_eq, if_true, if_false, Bool.false_eq_true, Int.lt_irrefl, implies_true, true_and, and_true, eq_self, and_self, beq_self_eq_true]
    refine PC.step (q1) fun m1 j1 => ?_
    try simp only [Heap.next_push, Heap.next_set, Heap.next_kill, next_bump, next_E0] at j1
    simp (maxSteps := 1000000) (disch := first | exact sd | fail) only [go_sem, Nat.reduceAdd, Nat.reduceSub, Nat.reduceLeDiff, ↓reduceIte, decide_eq_true_eq, if_true, if_false, Bool.false_eq_true, Int.lt_irrefl, implies_true, true_and, and_true, eq_self, and_self, beq_self_eq_true, show cx a b ≤ (0 : Int) by omega]
    refine PC.step (q2) fun m2 j2 => ?_
    try simp only [Heap.next_push, Heap.next_set, Heap.next_kill, next_bump, next_E0] at j2
    simp (maxSteps := 1000000) (disch := first | exact sd | fail) only [go_sem, Nat.reduceAdd, Nat.reduceSub, Nat.reduceLeDiff, ↓reduceIte, decide_eq_true_eq, if_true, if_false, Bool.false_eq_true, Int.lt_irrefl, implies_true, true_and, and_true, eq_self, and_self, beq_self_eq_true, Xn_eq]
    exact .rfl
theorem p112 (h1 : Lr pl) (h2 : Lr ql) (h3 : Lr pl') (h4 : Lr ql') : PC Try.prog 25 [X5 k pn pl qn ql, R4 pn' pl' qn' ql'] (Xn (adX (dx k pn pl qn ql) (dq pn' pl' qn' ql'))) := by
  refine PC.of (.cons pu_x5 (.cons pu_r4 .nil)) pu_x fun N hN => ?_
  have q1 := p183 (k := k) (pn := pn) (qn := qn) h1 h2
  have b1 := lx_dx (k := k) (pn := pn) (qn := qn) h1 h2
  have q2 (x : Rat) (hx : lq x ≤ 2 ^ 37) : PC Try.prog 39 [Qn x, R4 pn' pl' qn' ql'] (Qn (x + dq pn' pl' qn' ql')) := by
    have := p90 (pn := sgn x.num) (qn := sgn x.den) (pn' := pn') (qn' := qn') (Lr.z (lqn hx)) (Lr.z (lqd hx)) h3 h4
    rw [dq_q] at this
    exact this
  generalize hy : dq pn' pl' qn' ql' = y at *
  generalize dx k pn pl qn ql = a at *
  rcases a with _ | x | _
  · refine ACalls.of_code T.hm (n := 14) Try.func25 rfl rfl rfl rfl ?_; simp only [List.replicate_succ, List.replicate_zero, List.cons_append, List.nil_append]
    simp (maxSteps := 1000000) (disch := first | exact sd | fail) only [go_sem, Nat.reduceAdd, Nat.reduceSub, Nat.reduceLeDiff, ↓reduceIte, decide_eq_true_eq, if_true, if_false, Bool.false_eq_true, Int.lt_irrefl, implies_true, true_and, and_true, eq_self, and_self, beq_self_eq_true]
    refine PC.step (q1) fun m1 j1 => ?_
    try simp only [Heap.next_push, Heap.next_set, Heap.next_kill, next_bump, next_E0] at j1
    simp (maxSteps := 1000000) (disch := first | exact sd | fail) only [go_sem, Nat.reduceAdd, Nat.reduceSub, Nat.reduceLeDiff, ↓reduceIte, decide_eq_true_eq, if_true, if_false, Bool.false_eq_true, Int.lt_irrefl, implies_true, true_and, and_true, eq_self, and_self, beq_self_eq_true, show ¬ (-1 : Int) = 0 by decide, ne_eq, not_false_eq_true]
    exact .rfl
  · have b1 : lq x ≤ 2 ^ 37 := b1
    refine ACalls.of_code T.hm (n := 14) Try.func25 rfl rfl rfl rfl ?_; simp only [List.replicate_succ, List.replicate_zero, List.cons_append, List.nil_append]
    simp (maxSteps := 1000000) (disch := first | exact sd | fail) only [go_sem, Nat.reduceAdd, Nat.reduceSub, Nat.reduceLeDiff, ↓reduceIte, decide_eq_true_eq, if_true, if_false, Bool.false_eq_true, Int.lt_irrefl, implies_true, true_and, and_true, eq_self, and_self, beq_self_eq_true]
    refine PC.step (q1) fun m1 j1 => ?_
    try simp only [Heap.next_push, Heap.next_set, Heap.next_kill, next_bump, next_E0] at j1
    simp (maxSteps := 1000000) (disch := first | exact sd | fail) only [go_sem, Nat.reduceAdd, Nat.reduceSub, Nat.reduceLeDiff, ↓reduceIte, decide_eq_true_eq, if_true, if_false, Bool.false_eq_true, Int.lt_irrefl, implies_true, true_and, and_true, eq_self, and_self, beq_self_eq_true, ne_eq, not_true_eq_false]
    refine PC.step (q2 x b1) fun m2 j2 => ?_
    try simp only [Heap.next_push, Heap.next_set, Heap.next_kill, next_bump, next_E0] at j2
    simp (maxSteps := 1000000) (disch := first | exact sd | fail) only [go_sem, Nat.reduceAdd, Nat.reduceSub, Nat.reduceLeDiff, ↓reduceIte, decide_eq_true_eq, if_true, if_false, Bool.false_eq_true, Int.lt_irrefl, implies_true, true_and, and_true, eq_self, and_self, beq_self_eq_true]
    exact .rfl
  · refine ACalls.of_code T.hm (n := 14) Try.func25 rfl rfl rfl rfl ?_; simp only [List.replicate_succ, List.replicate_zero, List.cons_append, List.nil_append]
    simp (maxSteps := 1000000) (disch := first | exact sd | fail) only [go_sem, Nat.reduceAdd, Nat.reduceSub, Nat.reduceLeDiff, ↓reduceIte, decide_eq_true_eq, if_true, if_false, Bool.false_eq_true, Int.lt_irrefl, implies_true, true_and, and_true, eq_self, and_self, beq_self_eq_true]
    refine PC.step (q1) fun m1 j1 => ?_
    try simp only [Heap.next_push, Heap.next_set, Heap.next_kill, next_bump, next_E0] at j1
    simp (maxSteps := 1000000) (disch := first | exact sd | fail) only [go_sem, Nat.reduceAdd, Nat.reduceSub, Nat.reduceLeDiff, ↓reduceIte, decide_eq_true_eq, if_true, if_false, Bool.false_eq_true, Int.lt_irrefl, implies_true, true_and, and_true, eq_self, and_self, beq_self_eq_true, show ¬ (1 : Int) = 0 by decide, ne_eq, not_false_eq_true]
    exact .rfl
/-- Two are one. -/
theorem p105 {a b : XR} (ha : lx a ≤ 2 ^ 40) (e : a = b) : PC Try.prog 17 [Xn a, Xn b] (.bool true) := by
  subst e
  refine PC.of (.cons pu_x (.cons pu_x .nil)) (.ground rfl) fun N hN => ?_
  rcases a with _ | x | _
  · refine ACalls.of_code T.hm (n := 15) Try.func17 rfl rfl rfl rfl ?_; simp only [List.replicate_succ, List.replicate_zero, List.cons_append, List.nil_append]
    simp (maxSteps := 1000000) (disch := first | exact sd | fail) only [go_sem, Nat.reduceAdd, Nat.reduceSub, Nat.reduceLeDiff, ↓reduceIte, decide_eq_true_eq, if_true, if_false, Bool.false_eq_true, Int.lt_irrefl, implies_true, true_and, and_true, eq_self, and_self, beq_self_eq_true]
    refine PC.step (p75 lb_nil lb_nil lb_nil lb_nil) fun m1 j1 => ?_
    try simp only [Heap.next_push, Heap.next_set, Heap.next_kill, next_bump, next_E0] at j1
    simp (maxSteps := 1000000) (disch := first | exact sd | fail) only [go_sem, Nat.reduceAdd, Nat.reduceSub, Nat.reduceLeDiff, ↓reduceIte, decide_eq_true_eq, if_true, if_false, Bool.false_eq_true, Int.lt_irrefl, implies_true, true_and, and_true, eq_self, and_self, beq_self_eq_true, decide_true, Bool.and_self]
    exact .rfl
  · refine ACalls.of_code T.hm (n := 15) Try.func17 rfl rfl rfl rfl ?_; simp only [List.replicate_succ, List.replicate_zero, List.cons_append, List.nil_append]
    simp (maxSteps := 1000000) (disch := first | exact sd | fail) only [go_sem, Nat.reduceAdd, Nat.reduceSub, Nat.reduceLeDiff, ↓reduceIte, decide_eq_true_eq, if_true, if_false, Bool.false_eq_true, Int.lt_irrefl, implies_true, true_and, and_true, eq_self, and_self, beq_self_eq_true]
    refine PC.step (p75t (x := x) ha rfl) fun m1 j1 => ?_
    try simp only [Heap.next_push, Heap.next_set, Heap.next_kill, next_bump, next_E0] at j1
    simp (maxSteps := 1000000) (disch := first | exact sd | fail) only [go_sem, Nat.reduceAdd, Nat.reduceSub, Nat.reduceLeDiff, ↓reduceIte, decide_eq_true_eq, if_true, if_false, Bool.false_eq_true, Int.lt_irrefl, implies_true, true_and, and_true, eq_self, and_self, beq_self_eq_true]
    exact .rfl
  · refine ACalls.of_code T.hm (n := 15) Try.func17 rfl rfl rfl rfl ?_; simp only [List.replicate_succ, List.replicate_zero, List.cons_append, List.nil_append]
    simp (maxSteps := 1000000) (disch := first | exact sd | fail) only [go_sem, Nat.reduceAdd, Nat.reduceSub, Nat.reduceLeDiff, ↓reduceIte, decide_eq_true_eq, if_true, if_false, Bool.false_eq_true, Int.lt_irrefl, implies_true, true_and, and_true, eq_self, and_self, beq_self_eq_true]
    refine PC.step (p75 lb_nil lb_nil lb_nil lb_nil) fun m1 j1 => ?_
    try simp only [Heap.next_push, Heap.next_set, Heap.next_kill, next_bump, next_E0] at j1
    simp (maxSteps := 1000000) (disch := first | exact sd | fail) only [go_sem, Nat.reduceAdd, Nat.reduceSub, Nat.reduceLeDiff, ↓reduceIte, decide_eq_true_eq, if_true, if_false, Bool.false_eq_true, Int.lt_irrefl, implies_true, true_and, and_true, eq_self, and_self, beq_self_eq_true, decide_true, Bool.and_self]
    exact .rfl
end Go.Abs
