/- ExtOrders, on values. -/
import Derived.Test.YthiaciajkjdcnaaW7
set_option linter.unusedVariables false
set_option linter.unusedSimpArgs false
namespace Go.Abs
open Go Go.Proofs
set_option maxRecDepth 100000
set_option maxHeartbeats 40000000
def plL25_25_4 : Plan := ⟨[0, 1, 3, 4, 6, 7], [(2, [4, 3], []), (5, [], []), (8, [], []), (9, [], [])]⟩
theorem q25 {a b c : RX} (ha : LimX a) (hb : LimX b) (hc : LimX c) : PC Try.prog 4 [.agg ⟨eX.enc a⟩, .agg ⟨eX.enc b⟩, .agg ⟨eX.enc c⟩] (.bool true) := by
  refine PC.of (.cons pu_x5 (.cons pu_x5 (.cons pu_x5 .nil))) (.ground rfl) fun N hN => ?_
  refine ACalls.of_code T.hm (n := 103) Try.func4 rfl rfl rfl rfl ?_; simp only [List.replicate_succ, List.replicate_zero, List.cons_append, List.nil_append]
  simp (maxSteps := 1000000) (disch := first | exact sd | fail) only [go_sem, Nat.reduceAdd, Nat.reduceSub, Nat.reduceLeDiff, ↓reduceIte, decide_eq_true_eq, if_true, if_false, Bool.false_eq_true, Int.lt_irrefl, implies_true, true_and, and_true, eq_self, and_self, beq_self_eq_true, aw_plan (id := 4) plL25_25_4, plL25_25_4]
  refine s99 (ls := [a, b, c]) (by simp (maxSteps := 1000000) (disch := first | exact sd | fail) only [go_sem, Nat.reduceAdd, Nat.reduceSub, Nat.reduceLeDiff, ↓reduceIte, decide_eq_true_eq, if_true, if_false, Bool.false_eq_true, Int.lt_irrefl, implies_true, true_and, and_true, eq_self, and_self, beq_self_eq_true, aw_plan (id := 4) plL25_25_4, plL25_25_4]; rfl) (by simp (maxSteps := 1000000) (disch := first | exact sd | fail) only [go_sem, Nat.reduceAdd, Nat.reduceSub, Nat.reduceLeDiff, ↓reduceIte, decide_eq_true_eq, if_true, if_false, Bool.false_eq_true, Int.lt_irrefl, implies_true, true_and, and_true, eq_self, and_self, beq_self_eq_true, aw_plan (id := 4) plL25_25_4, plL25_25_4]; omega) rfl rfl (by simp) ?_
  rw [List.any_cons, List.any_cons, List.any_cons, List.any_nil, Bool.or_false]
  cases ga : gx a with
  | true =>
    simp (maxSteps := 1000000) (disch := first | exact sd | fail) only [go_sem, Nat.reduceAdd, Nat.reduceSub, Nat.reduceLeDiff, ↓reduceIte, decide_eq_true_eq, if_true, if_false, Bool.false_eq_true, Int.lt_irrefl, implies_true, true_and, and_true, eq_self, and_self, beq_self_eq_true, aw_plan (id := 4) plL25_25_4, plL25_25_4, Bool.true_or]
    refine PC.step (p100) fun m1 j1 => ?_
    try simp only [Heap.next_push, Heap.next_set, Heap.next_kill, next_bump, next_E0] at j1
    simp (maxSteps := 1000000) (disch := first | exact sd | fail) only [go_sem, Nat.reduceAdd, Nat.reduceSub, Nat.reduceLeDiff, ↓reduceIte, decide_eq_true_eq, if_true, if_false, Bool.false_eq_true, Int.lt_irrefl, implies_true, true_and, and_true, eq_self, and_self, beq_self_eq_true, aw_plan (id := 4) plL25_25_4, plL25_25_4]
    exact .rfl
  | false =>
    cases gb : gx b with
    | true =>
      simp (maxSteps := 1000000) (disch := first | exact sd | fail) only [go_sem, Nat.reduceAdd, Nat.reduceSub, Nat.reduceLeDiff, ↓reduceIte, decide_eq_true_eq, if_true, if_false, Bool.false_eq_true, Int.lt_irrefl, implies_true, true_and, and_true, eq_self, and_self, beq_self_eq_true, aw_plan (id := 4) plL25_25_4, plL25_25_4, Bool.or_true, Bool.true_or]
      refine PC.step (p100) fun m1 j1 => ?_
      try simp only [Heap.next_push, Heap.next_set, Heap.next_kill, next_bump, next_E0] at j1
      simp (maxSteps := 1000000) (disch := first | exact sd | fail) only [go_sem, Nat.reduceAdd, Nat.reduceSub, Nat.reduceLeDiff, ↓reduceIte, decide_eq_true_eq, if_true, if_false, Bool.false_eq_true, Int.lt_irrefl, implies_true, true_and, and_true, eq_self, and_self, beq_self_eq_true, aw_plan (id := 4) plL25_25_4, plL25_25_4]
      exact .rfl
    | false =>
      cases gc : gx c with
      | true =>
        simp (maxSteps := 1000000) (disch := first | exact sd | fail) only [go_sem, Nat.reduceAdd, Nat.reduceSub, Nat.reduceLeDiff, ↓reduceIte, decide_eq_true_eq, if_true, if_false, Bool.false_eq_true, Int.lt_irrefl, implies_true, true_and, and_true, eq_self, and_self, beq_self_eq_true, aw_plan (id := 4) plL25_25_4, plL25_25_4, Bool.or_true]
        refine PC.step (p100) fun m1 j1 => ?_
        try simp only [Heap.next_push, Heap.next_set, Heap.next_kill, next_bump, next_E0] at j1
        simp (maxSteps := 1000000) (disch := first | exact sd | fail) only [go_sem, Nat.reduceAdd, Nat.reduceSub, Nat.reduceLeDiff, ↓reduceIte, decide_eq_true_eq, if_true, if_false, Bool.false_eq_true, Int.lt_irrefl, implies_true, true_and, and_true, eq_self, and_self, beq_self_eq_true, aw_plan (id := 4) plL25_25_4, plL25_25_4]
        exact .rfl
      | false =>
        have ra := gx_rx ha ga
        have rb := gx_rx hb gb
        have rc := gx_rx hc gc
        have ra' := ra.mono (show 6 ≤ 2 ^ 30 by decide)
        have rb' := rb.mono (show 6 ≤ 2 ^ 30 by decide)
        have rc' := rc.mono (show 6 ≤ 2 ^ 30 by decide)
        have xa := lx_vx ra (by decide)
        have xb := lx_vx rb (by decide)
        have rm : Rx (2 ^ 30) (xv (mxX (vx a) (vx b))) := Rx.xv (Nat.le_trans (lx_mx _ _ xa xb) (by decide))
        have rn : Rx (2 ^ 30) (xv (mnX (vx a) (vx b))) := Rx.xv (Nat.le_trans (lx_mn _ _ xa xb) (by decide))
        have q1 := p102v ra' rb'
        have q2 := p103v ra' rb'
        have q3 := p104v ra' rb'
        have q4 := p102v rb' ra'
        have q5 := p102v rm ra'
        have q6 := p102v rm rb'
        have q7 := p102v rn ra'
        have q8 := p102v rn rb'
        have q9 := p102v rc' ra'
        have q10 := p102v rc' rb'
        have q11 := p102v rc' rm
        have q12 := p102v rc' rn
        have q13 := p102v rb' rc'
        have q14 := p102v ra' rc'
        rw [vx_xv] at q5 q6 q7 q8 q11 q12
        have e4 := cx_swap (vx a) (vx b)
        have e5 : 0 ≤ cx (mxX (vx a) (vx b)) (vx a) := by have := mx_l (vx a) (vx b); rw [cx_swap]; omega
        have e6 : 0 ≤ cx (mxX (vx a) (vx b)) (vx b) := by have := mx_r (vx a) (vx b); rw [cx_swap]; omega
        have e7 := mn_l (vx a) (vx b)
        have e8 := mn_r (vx a) (vx b)
        have e11 : 0 ≤ cx (vx c) (vx a) → 0 ≤ cx (vx c) (vx b) → 0 ≤ cx (vx c) (mxX (vx a) (vx b)) := fun h1 h2 => by rcases mx_or (vx a) (vx b) with e | e <;> rw [e] <;> assumption
        have e12 : cx (vx c) (vx a) ≤ 0 → cx (vx c) (vx b) ≤ 0 → cx (vx c) (mnX (vx a) (vx b)) ≤ 0 := fun h1 h2 => by rcases mn_or (vx a) (vx b) with e | e <;> rw [e] <;> assumption
        have e13 : cx (vx a) (vx b) ≤ 0 → cx (vx b) (vx c) ≤ 0 → cx (vx a) (vx c) ≤ 0 := cx_trans
        have bd := cx_bd (vx a) (vx b)
        generalize cx (vx a) (vx b) = i1 at *
        generalize cx (mxX (vx a) (vx b)) (vx a) = i5 at *
        generalize cx (mxX (vx a) (vx b)) (vx b) = i6 at *
        generalize cx (mnX (vx a) (vx b)) (vx a) = i7 at *
        generalize cx (mnX (vx a) (vx b)) (vx b) = i8 at *
        generalize cx (vx c) (mxX (vx a) (vx b)) = i11 at *
        generalize cx (vx c) (mnX (vx a) (vx b)) = i12 at *
        generalize cx (vx b) (vx a) = i4 at *
        generalize cx (vx c) (vx a) = i9 at *
        generalize cx (vx c) (vx b) = i10 at *
        generalize cx (vx b) (vx c) = i13 at *
        generalize cx (vx a) (vx c) = i14 at *
        generalize mxX (vx a) (vx b) = m at *
        generalize mnX (vx a) (vx b) = n at *
        subst e4
        have w1 : IntKind.i64.wrap (-i1) = -i1 := wrap_i64 (by omega) (by omega)
        clear ra rb rc ra' rb' rc' xa xb rm rn ha hb hc ga gb gc
        simp (maxSteps := 1000000) (disch := first | exact sd | fail) only [go_sem, Nat.reduceAdd, Nat.reduceSub, Nat.reduceLeDiff, ↓reduceIte, decide_eq_true_eq, if_true, if_false, Bool.false_eq_true, Int.lt_irrefl, implies_true, true_and, and_true, eq_self, and_self, beq_self_eq_true, aw_plan (id := 4) plL25_25_4, plL25_25_4, Bool.or_false]
        refine PC.step (q1) fun m1 j1 => ?_
        try simp only [Heap.next_push, Heap.next_set, Heap.next_kill, next_bump, next_E0] at j1
        simp (maxSteps := 1000000) (disch := first | exact sd | fail) only [go_sem, Nat.reduceAdd, Nat.reduceSub, Nat.reduceLeDiff, ↓reduceIte, decide_eq_true_eq, if_true, if_false, Bool.false_eq_true, Int.lt_irrefl, implies_true, true_and, and_true, eq_self, and_self, beq_self_eq_true, aw_plan (id := 4) plL25_25_4, plL25_25_4]
        refine PC.step (q2) fun m2 j2 => ?_
        try simp only [Heap.next_push, Heap.next_set, Heap.next_kill, next_bump, next_E0] at j2
        simp (maxSteps := 1000000) (disch := first | exact sd | fail) only [go_sem, Nat.reduceAdd, Nat.reduceSub, Nat.reduceLeDiff, ↓reduceIte, decide_eq_true_eq, if_true, if_false, Bool.false_eq_true, Int.lt_irrefl, implies_true, true_and, and_true, eq_self, and_self, beq_self_eq_true, aw_plan (id := 4) plL25_25_4, plL25_25_4]
        refine PC.step (q3) fun m3 j3 => ?_
        try simp only [Heap.next_push, Heap.next_set, Heap.next_kill, next_bump, next_E0] at j3
        simp (maxSteps := 1000000) (disch := first | exact sd | fail) only [go_sem, Nat.reduceAdd, Nat.reduceSub, Nat.reduceLeDiff, ↓reduceIte, decide_eq_true_eq, if_true, if_false, Bool.false_eq_true, Int.lt_irrefl, implies_true, true_and, and_true, eq_self, and_self, beq_self_eq_true, aw_plan (id := 4) plL25_25_4, plL25_25_4, Xn_eq]
        refine PC.step (q4) fun m4 j4 => ?_
        try simp only [Heap.next_push, Heap.next_set, Heap.next_kill, next_bump, next_E0] at j4
        simp (maxSteps := 1000000) (disch := first | exact sd | fail) only [go_sem, Nat.reduceAdd, Nat.reduceSub, Nat.reduceLeDiff, ↓reduceIte, decide_eq_true_eq, if_true, if_false, Bool.false_eq_true, Int.lt_irrefl, implies_true, true_and, and_true, eq_self, and_self, beq_self_eq_true, aw_plan (id := 4) plL25_25_4, plL25_25_4, w1, ne_eq, not_true_eq_false]
        refine PC.step (q5) fun m5 j5 => ?_
        try simp only [Heap.next_push, Heap.next_set, Heap.next_kill, next_bump, next_E0] at j5
        simp (maxSteps := 1000000) (disch := first | exact sd | fail) only [go_sem, Nat.reduceAdd, Nat.reduceSub, Nat.reduceLeDiff, ↓reduceIte, decide_eq_true_eq, if_true, if_false, Bool.false_eq_true, Int.lt_irrefl, implies_true, true_and, and_true, eq_self, and_self, beq_self_eq_true, aw_plan (id := 4) plL25_25_4, plL25_25_4, show ¬ i5 < 0 by omega]
        refine PC.step (q6) fun m5 j5 => ?_
        try simp only [Heap.next_push, Heap.next_set, Heap.next_kill, next_bump, next_E0] at j5
        simp (maxSteps := 1000000) (disch := first | exact sd | fail) only [go_sem, Nat.reduceAdd, Nat.reduceSub, Nat.reduceLeDiff, ↓reduceIte, decide_eq_true_eq, if_true, if_false, Bool.false_eq_true, Int.lt_irrefl, implies_true, true_and, and_true, eq_self, and_self, beq_self_eq_true, aw_plan (id := 4) plL25_25_4, plL25_25_4, show ¬ i6 < 0 by omega]
        refine PC.step (q7) fun m5 j5 => ?_
        try simp only [Heap.next_push, Heap.next_set, Heap.next_kill, next_bump, next_E0] at j5
        simp (maxSteps := 1000000) (disch := first | exact sd | fail) only [go_sem, Nat.reduceAdd, Nat.reduceSub, Nat.reduceLeDiff, ↓reduceIte, decide_eq_true_eq, if_true, if_false, Bool.false_eq_true, Int.lt_irrefl, implies_true, true_and, and_true, eq_self, and_self, beq_self_eq_true, aw_plan (id := 4) plL25_25_4, plL25_25_4, show ¬ 0 < i7 by omega]
        refine PC.step (q8) fun m5 j5 => ?_
        try simp only [Heap.next_push, Heap.next_set, Heap.next_kill, next_bump, next_E0] at j5
        simp (maxSteps := 1000000) (disch := first | exact sd | fail) only [go_sem, Nat.reduceAdd, Nat.reduceSub, Nat.reduceLeDiff, ↓reduceIte, decide_eq_true_eq, if_true, if_false, Bool.false_eq_true, Int.lt_irrefl, implies_true, true_and, and_true, eq_self, and_self, beq_self_eq_true, aw_plan (id := 4) plL25_25_4, plL25_25_4, show ¬ 0 < i8 by omega]
        refine PC.step (q9) fun m6 j6 => ?_
        try simp only [Heap.next_push, Heap.next_set, Heap.next_kill, next_bump, next_E0] at j6
        rcases Int.lt_trichotomy i9 0 with h9 | h9 | h9
        · have f1 : ¬ 0 ≤ i9 := by omega
          have f2 : i9 ≤ 0 := by omega
          simp (maxSteps := 1000000) (disch := first | exact sd | fail) only [go_sem, Nat.reduceAdd, Nat.reduceSub, Nat.reduceLeDiff, ↓reduceIte, decide_eq_true_eq, if_true, if_false, Bool.false_eq_true, Int.lt_irrefl, implies_true, true_and, and_true, eq_self, and_self, beq_self_eq_true, aw_plan (id := 4) plL25_25_4, plL25_25_4, f1]
          refine PC.step (q9) fun m7 j7 => ?_
          try simp only [Heap.next_push, Heap.next_set, Heap.next_kill, next_bump, next_E0] at j7
          simp (maxSteps := 1000000) (disch := first | exact sd | fail) only [go_sem, Nat.reduceAdd, Nat.reduceSub, Nat.reduceLeDiff, ↓reduceIte, decide_eq_true_eq, if_true, if_false, Bool.false_eq_true, Int.lt_irrefl, implies_true, true_and, and_true, eq_self, and_self, beq_self_eq_true, aw_plan (id := 4) plL25_25_4, plL25_25_4, f2]
          refine PC.step (q10) fun m7 j7 => ?_
          try simp only [Heap.next_push, Heap.next_set, Heap.next_kill, next_bump, next_E0] at j7
          by_cases h10 : i10 ≤ 0
          · have f3 := e12 f2 h10
            simp (maxSteps := 1000000) (disch := first | exact sd | fail) only [go_sem, Nat.reduceAdd, Nat.reduceSub, Nat.reduceLeDiff, ↓reduceIte, decide_eq_true_eq, if_true, if_false, Bool.false_eq_true, Int.lt_irrefl, implies_true, true_and, and_true, eq_self, and_self, beq_self_eq_true, aw_plan (id := 4) plL25_25_4, plL25_25_4, h10]
            refine PC.step (q12) fun m7 j7 => ?_
            try simp only [Heap.next_push, Heap.next_set, Heap.next_kill, next_bump, next_E0] at j7
            simp (maxSteps := 1000000) (disch := first | exact sd | fail) only [go_sem, Nat.reduceAdd, Nat.reduceSub, Nat.reduceLeDiff, ↓reduceIte, decide_eq_true_eq, if_true, if_false, Bool.false_eq_true, Int.lt_irrefl, implies_true, true_and, and_true, eq_self, and_self, beq_self_eq_true, aw_plan (id := 4) plL25_25_4, plL25_25_4, show ¬ 0 < i12 by omega]
            by_cases d0 : 0 < i1
            · simp (maxSteps := 1000000) (disch := first | exact sd | fail) only [go_sem, Nat.reduceAdd, Nat.reduceSub, Nat.reduceLeDiff, ↓reduceIte, decide_eq_true_eq, if_true, if_false, Bool.false_eq_true, Int.lt_irrefl, implies_true, true_and, and_true, eq_self, and_self, beq_self_eq_true, aw_plan (id := 4) plL25_25_4, plL25_25_4, d0]
              refine PC.step (p100) fun m9 j9 => ?_
              try simp only [Heap.next_push, Heap.next_set, Heap.next_kill, next_bump, next_E0] at j9
              simp (maxSteps := 1000000) (disch := first | exact sd | fail) only [go_sem, Nat.reduceAdd, Nat.reduceSub, Nat.reduceLeDiff, ↓reduceIte, decide_eq_true_eq, if_true, if_false, Bool.false_eq_true, Int.lt_irrefl, implies_true, true_and, and_true, eq_self, and_self, beq_self_eq_true, aw_plan (id := 4) plL25_25_4, plL25_25_4]
              exact .rfl
            simp (maxSteps := 1000000) (disch := first | exact sd | fail) only [go_sem, Nat.reduceAdd, Nat.reduceSub, Nat.reduceLeDiff, ↓reduceIte, decide_eq_true_eq, if_true, if_false, Bool.false_eq_true, Int.lt_irrefl, implies_true, true_and, and_true, eq_self, and_self, beq_self_eq_true, aw_plan (id := 4) plL25_25_4, plL25_25_4, d0]
            refine PC.step (q13) fun m8 j8 => ?_
            try simp only [Heap.next_push, Heap.next_set, Heap.next_kill, next_bump, next_E0] at j8
            by_cases d1 : 0 < i13
            · simp (maxSteps := 1000000) (disch := first | exact sd | fail) only [go_sem, Nat.reduceAdd, Nat.reduceSub, Nat.reduceLeDiff, ↓reduceIte, decide_eq_true_eq, if_true, if_false, Bool.false_eq_true, Int.lt_irrefl, implies_true, true_and, and_true, eq_self, and_self, beq_self_eq_true, aw_plan (id := 4) plL25_25_4, plL25_25_4, d1]
              refine PC.step (p100) fun m9 j9 => ?_
              try simp only [Heap.next_push, Heap.next_set, Heap.next_kill, next_bump, next_E0] at j9
              simp (maxSteps := 1000000) (disch := first | exact sd | fail) only [go_sem, Nat.reduceAdd, Nat.reduceSub, Nat.reduceLeDiff, ↓reduceIte, decide_eq_true_eq, if_true, if_false, Bool.false_eq_true, Int.lt_irrefl, implies_true, true_and, and_true, eq_self, and_self, beq_self_eq_true, aw_plan (id := 4) plL25_25_4, plL25_25_4]
              exact .rfl
            have d2 : i14 ≤ 0 := e13 (by omega) (by omega)
            simp (maxSteps := 1000000) (disch := first | exact sd | fail) only [go_sem, Nat.reduceAdd, Nat.reduceSub, Nat.reduceLeDiff, ↓reduceIte, decide_eq_true_eq, if_true, if_false, Bool.false_eq_true, Int.lt_irrefl, implies_true, true_and, and_true, eq_self, and_self, beq_self_eq_true, aw_plan (id := 4) plL25_25_4, plL25_25_4, d1]
            refine PC.step (q14) fun m9 j9 => ?_
            try simp only [Heap.next_push, Heap.next_set, Heap.next_kill, next_bump, next_E0] at j9
            simp (maxSteps := 1000000) (disch := first | exact sd | fail) only [go_sem, Nat.reduceAdd, Nat.reduceSub, Nat.reduceLeDiff, ↓reduceIte, decide_eq_true_eq, if_true, if_false, Bool.false_eq_true, Int.lt_irrefl, implies_true, true_and, and_true, eq_self, and_self, beq_self_eq_true, aw_plan (id := 4) plL25_25_4, plL25_25_4, d2]
            refine PC.step (p100) fun m10 j10 => ?_
            try simp only [Heap.next_push, Heap.next_set, Heap.next_kill, next_bump, next_E0] at j10
            simp (maxSteps := 1000000) (disch := first | exact sd | fail) only [go_sem, Nat.reduceAdd, Nat.reduceSub, Nat.reduceLeDiff, ↓reduceIte, decide_eq_true_eq, if_true, if_false, Bool.false_eq_true, Int.lt_irrefl, implies_true, true_and, and_true, eq_self, and_self, beq_self_eq_true, aw_plan (id := 4) plL25_25_4, plL25_25_4]
            exact .rfl
          · skip
            simp (maxSteps := 1000000) (disch := first | exact sd | fail) only [go_sem, Nat.reduceAdd, Nat.reduceSub, Nat.reduceLeDiff, ↓reduceIte, decide_eq_true_eq, if_true, if_false, Bool.false_eq_true, Int.lt_irrefl, implies_true, true_and, and_true, eq_self, and_self, beq_self_eq_true, aw_plan (id := 4) plL25_25_4, plL25_25_4, h10]
            by_cases d0 : 0 < i1
            · simp (maxSteps := 1000000) (disch := first | exact sd | fail) only [go_sem, Nat.reduceAdd, Nat.reduceSub, Nat.reduceLeDiff, ↓reduceIte, decide_eq_true_eq, if_true, if_false, Bool.false_eq_true, Int.lt_irrefl, implies_true, true_and, and_true, eq_self, and_self, beq_self_eq_true, aw_plan (id := 4) plL25_25_4, plL25_25_4, d0]
              refine PC.step (p100) fun m9 j9 => ?_
              try simp only [Heap.next_push, Heap.next_set, Heap.next_kill, next_bump, next_E0] at j9
              simp (maxSteps := 1000000) (disch := first | exact sd | fail) only [go_sem, Nat.reduceAdd, Nat.reduceSub, Nat.reduceLeDiff, ↓reduceIte, decide_eq_true_eq, if_true, if_false, Bool.false_eq_true, Int.lt_irrefl, implies_true, true_and, and_true, eq_self, and_self, beq_self_eq_true, aw_plan (id := 4) plL25_25_4, plL25_25_4]
              exact .rfl
            simp (maxSteps := 1000000) (disch := first | exact sd | fail) only [go_sem, Nat.reduceAdd, Nat.reduceSub, Nat.reduceLeDiff, ↓reduceIte, decide_eq_true_eq, if_true, if_false, Bool.false_eq_true, Int.lt_irrefl, implies_true, true_and, and_true, eq_self, and_self, beq_self_eq_true, aw_plan (id := 4) plL25_25_4, plL25_25_4, d0]
            refine PC.step (q13) fun m8 j8 => ?_
            try simp only [Heap.next_push, Heap.next_set, Heap.next_kill, next_bump, next_E0] at j8
            by_cases d1 : 0 < i13
            · simp (maxSteps := 1000000) (disch := first | exact sd | fail) only [go_sem, Nat.reduceAdd, Nat.reduceSub, Nat.reduceLeDiff, ↓reduceIte, decide_eq_true_eq, if_true, if_false, Bool.false_eq_true, Int.lt_irrefl, implies_true, true_and, and_true, eq_self, and_self, beq_self_eq_true, aw_plan (id := 4) plL25_25_4, plL25_25_4, d1]
              refine PC.step (p100) fun m9 j9 => ?_
              try simp only [Heap.next_push, Heap.next_set, Heap.next_kill, next_bump, next_E0] at j9
              simp (maxSteps := 1000000) (disch := first | exact sd | fail) only [go_sem, Nat.reduceAdd, Nat.reduceSub, Nat.reduceLeDiff, ↓reduceIte, decide_eq_true_eq, if_true, if_false, Bool.false_eq_true, Int.lt_irrefl, implies_true, true_and, and_true, eq_self, and_self, beq_self_eq_true, aw_plan (id := 4) plL25_25_4, plL25_25_4]
              exact .rfl
            have d2 : i14 ≤ 0 := e13 (by omega) (by omega)
            simp (maxSteps := 1000000) (disch := first | exact sd | fail) only [go_sem, Nat.reduceAdd, Nat.reduceSub, Nat.reduceLeDiff, ↓reduceIte, decide_eq_true_eq, if_true, if_false, Bool.false_eq_true, Int.lt_irrefl, implies_true, true_and, and_true, eq_self, and_self, beq_self_eq_true, aw_plan (id := 4) plL25_25_4, plL25_25_4, d1]
            refine PC.step (q14) fun m9 j9 => ?_
            try simp only [Heap.next_push, Heap.next_set, Heap.next_kill, next_bump, next_E0] at j9
            simp (maxSteps := 1000000) (disch := first | exact sd | fail) only [go_sem, Nat.reduceAdd, Nat.reduceSub, Nat.reduceLeDiff, ↓reduceIte, decide_eq_true_eq, if_true, if_false, Bool.false_eq_true, Int.lt_irrefl, implies_true, true_and, and_true, eq_self, and_self, beq_self_eq_true, aw_plan (id := 4) plL25_25_4, plL25_25_4, d2]
            refine PC.step (p100) fun m10 j10 => ?_
            try simp only [Heap.next_push, Heap.next_set, Heap.next_kill, next_bump, next_E0] at j10
            simp (maxSteps := 1000000) (disch := first | exact sd | fail) only [go_sem, Nat.reduceAdd, Nat.reduceSub, Nat.reduceLeDiff, ↓reduceIte, decide_eq_true_eq, if_true, if_false, Bool.false_eq_true, Int.lt_irrefl, implies_true, true_and, and_true, eq_self, and_self, beq_self_eq_true, aw_plan (id := 4) plL25_25_4, plL25_25_4]
            exact .rfl
        · have f1 : 0 ≤ i9 := by omega
          have f2 : i9 ≤ 0 := by omega
          simp (maxSteps := 1000000) (disch := first | exact sd | fail) only [go_sem, Nat.reduceAdd, Nat.reduceSub, Nat.reduceLeDiff, ↓reduceIte, decide_eq_true_eq, if_true, if_false, Bool.false_eq_true, Int.lt_irrefl, implies_true, true_and, and_true, eq_self, and_self, beq_self_eq_true, aw_plan (id := 4) plL25_25_4, plL25_25_4, f1]
          refine PC.step (q10) fun m7 j7 => ?_
          try simp only [Heap.next_push, Heap.next_set, Heap.next_kill, next_bump, next_E0] at j7
          rcases Int.lt_trichotomy i10 0 with h10 | h10 | h10
          · have g1 : ¬ 0 ≤ i10 := by omega
            have g2 : i10 ≤ 0 := by omega
            have f3 := e12 f2 g2
            simp (maxSteps := 1000000) (disch := first | exact sd | fail) only [go_sem, Nat.reduceAdd, Nat.reduceSub, Nat.reduceLeDiff, ↓reduceIte, decide_eq_true_eq, if_true, if_false, Bool.false_eq_true, Int.lt_irrefl, implies_true, true_and, and_true, eq_self, and_self, beq_self_eq_true, aw_plan (id := 4) plL25_25_4, plL25_25_4, g1]
            refine PC.step (q9) fun m7 j7 => ?_
            try simp only [Heap.next_push, Heap.next_set, Heap.next_kill, next_bump, next_E0] at j7
            simp (maxSteps := 1000000) (disch := first | exact sd | fail) only [go_sem, Nat.reduceAdd, Nat.reduceSub, Nat.reduceLeDiff, ↓reduceIte, decide_eq_true_eq, if_true, if_false, Bool.false_eq_true, Int.lt_irrefl, implies_true, true_and, and_true, eq_self, and_self, beq_self_eq_true, aw_plan (id := 4) plL25_25_4, plL25_25_4, f2]
            refine PC.step (q10) fun m7 j7 => ?_
            try simp only [Heap.next_push, Heap.next_set, Heap.next_kill, next_bump, next_E0] at j7
            simp (maxSteps := 1000000) (disch := first | exact sd | fail) only [go_sem, Nat.reduceAdd, Nat.reduceSub, Nat.reduceLeDiff, ↓reduceIte, decide_eq_true_eq, if_true, if_false, Bool.false_eq_true, Int.lt_irrefl, implies_true, true_and, and_true, eq_self, and_self, beq_self_eq_true, aw_plan (id := 4) plL25_25_4, plL25_25_4, g2]
            refine PC.step (q12) fun m7 j7 => ?_
            try simp only [Heap.next_push, Heap.next_set, Heap.next_kill, next_bump, next_E0] at j7
            simp (maxSteps := 1000000) (disch := first | exact sd | fail) only [go_sem, Nat.reduceAdd, Nat.reduceSub, Nat.reduceLeDiff, ↓reduceIte, decide_eq_true_eq, if_true, if_false, Bool.false_eq_true, Int.lt_irrefl, implies_true, true_and, and_true, eq_self, and_self, beq_self_eq_true, aw_plan (id := 4) plL25_25_4, plL25_25_4, show ¬ 0 < i12 by omega]
            by_cases d0 : 0 < i1
            · simp (maxSteps := 1000000) (disch := first | exact sd | fail) only [go_sem, Nat.reduceAdd, Nat.reduceSub, Nat.reduceLeDiff, ↓reduceIte, decide_eq_true_eq, if_true, if_false, Bool.false_eq_true, Int.lt_irrefl, implies_true, true_and, and_true, eq_self, and_self, beq_self_eq_true, aw_plan (id := 4) plL25_25_4, plL25_25_4, d0]
              refine PC.step (p100) fun m9 j9 => ?_
              try simp only [Heap.next_push, Heap.next_set, Heap.next_kill, next_bump, next_E0] at j9
              simp (maxSteps := 1000000) (disch := first | exact sd | fail) only [go_sem, Nat.reduceAdd, Nat.reduceSub, Nat.reduceLeDiff, ↓reduceIte, decide_eq_true_eq, if_true, if_false, Bool.false_eq_true, Int.lt_irrefl, implies_true, true_and, and_true, eq_self, and_self, beq_self_eq_true, aw_plan (id := 4) plL25_25_4, plL25_25_4]
              exact .rfl
            simp (maxSteps := 1000000) (disch := first | exact sd | fail) only [go_sem, Nat.reduceAdd, Nat.reduceSub, Nat.reduceLeDiff, ↓reduceIte, decide_eq_true_eq, if_true, if_false, Bool.false_eq_true, Int.lt_irrefl, implies_true, true_and, and_true, eq_self, and_self, beq_self_eq_true, aw_plan (id := 4) plL25_25_4, plL25_25_4, d0]
            refine PC.step (q13) fun m8 j8 => ?_
            try simp only [Heap.next_push, Heap.next_set, Heap.next_kill, next_bump, next_E0] at j8
            by_cases d1 : 0 < i13
            · simp (maxSteps := 1000000) (disch := first | exact sd | fail) only [go_sem, Nat.reduceAdd, Nat.reduceSub, Nat.reduceLeDiff, ↓reduceIte, decide_eq_true_eq, if_true, if_false, Bool.false_eq_true, Int.lt_irrefl, implies_true, true_and, and_true, eq_self, and_self, beq_self_eq_true, aw_plan (id := 4) plL25_25_4, plL25_25_4, d1]
              refine PC.step (p100) fun m9 j9 => ?_
              try simp only [Heap.next_push, Heap.next_set, Heap.next_kill, next_bump, next_E0] at j9
              simp (maxSteps := 1000000) (disch := first | exact sd | fail) only [go_sem, Nat.reduceAdd, Nat.reduceSub, Nat.reduceLeDiff, ↓reduceIte, decide_eq_true_eq, if_true, if_false, Bool.false_eq_true, Int.lt_irrefl, implies_true, true_and, and_true, eq_self, and_self, beq_self_eq_true, aw_plan (id := 4) plL25_25_4, plL25_25_4]
              exact .rfl
            have d2 : i14 ≤ 0 := e13 (by omega) (by omega)
            simp (maxSteps := 1000000) (disch := first | exact sd | fail) only [go_sem, Nat.reduceAdd, Nat.reduceSub, Nat.reduceLeDiff, ↓reduceIte, decide_eq_true_eq, if_true, if_false, Bool.false_eq_true, Int.lt_irrefl, implies_true, true_and, and_true, eq_self, and_self, beq_self_eq_true, aw_plan (id := 4) plL25_25_4, plL25_25_4, d1]
            refine PC.step (q14) fun m9 j9 => ?_
            try simp only [Heap.next_push, Heap.next_set, Heap.next_kill, next_bump, next_E0] at j9
            simp (maxSteps := 1000000) (disch := first | exact sd | fail) only [go_sem, Nat.reduceAdd, Nat.reduceSub, Nat.reduceLeDiff, ↓reduceIte, decide_eq_true_eq, if_true, if_false, Bool.false_eq_true, Int.lt_irrefl, implies_true, true_and, and_true, eq_self, and_self, beq_self_eq_true, aw_plan (id := 4) plL25_25_4, plL25_25_4, d2]
            refine PC.step (p100) fun m10 j10 => ?_
            try simp only [Heap.next_push, Heap.next_set, Heap.next_kill, next_bump, next_E0] at j10
            simp (maxSteps := 1000000) (disch := first | exact sd | fail) only [go_sem, Nat.reduceAdd, Nat.reduceSub, Nat.reduceLeDiff, ↓reduceIte, decide_eq_true_eq, if_true, if_false, Bool.false_eq_true, Int.lt_irrefl, implies_true, true_and, and_true, eq_self, and_self, beq_self_eq_true, aw_plan (id := 4) plL25_25_4, plL25_25_4]
            exact .rfl
          · have g1 : 0 ≤ i10 := by omega
            have g2 : i10 ≤ 0 := by omega
            have f3 := e12 f2 g2
            have f4 := e11 f1 g1
            simp (maxSteps := 1000000) (disch := first | exact sd | fail) only [go_sem, Nat.reduceAdd, Nat.reduceSub, Nat.reduceLeDiff, ↓reduceIte, decide_eq_true_eq, if_true, if_false, Bool.false_eq_true, Int.lt_irrefl, implies_true, true_and, and_true, eq_self, and_self, beq_self_eq_true, aw_plan (id := 4) plL25_25_4, plL25_25_4, g1]
            refine PC.step (q11) fun m7 j7 => ?_
            try simp only [Heap.next_push, Heap.next_set, Heap.next_kill, next_bump, next_E0] at j7
            simp (maxSteps := 1000000) (disch := first | exact sd | fail) only [go_sem, Nat.reduceAdd, Nat.reduceSub, Nat.reduceLeDiff, ↓reduceIte, decide_eq_true_eq, if_true, if_false, Bool.false_eq_true, Int.lt_irrefl, implies_true, true_and, and_true, eq_self, and_self, beq_self_eq_true, aw_plan (id := 4) plL25_25_4, plL25_25_4, show ¬ i11 < 0 by omega]
            refine PC.step (q9) fun m7 j7 => ?_
            try simp only [Heap.next_push, Heap.next_set, Heap.next_kill, next_bump, next_E0] at j7
            simp (maxSteps := 1000000) (disch := first | exact sd | fail) only [go_sem, Nat.reduceAdd, Nat.reduceSub, Nat.reduceLeDiff, ↓reduceIte, decide_eq_true_eq, if_true, if_false, Bool.false_eq_true, Int.lt_irrefl, implies_true, true_and, and_true, eq_self, and_self, beq_self_eq_true, aw_plan (id := 4) plL25_25_4, plL25_25_4, f2]
            refine PC.step (q10) fun m7 j7 => ?_
            try simp only [Heap.next_push, Heap.next_set, Heap.next_kill, next_bump, next_E0] at j7
            simp (maxSteps := 1000000) (disch := first | exact sd | fail) only [go_sem, Nat.reduceAdd, Nat.reduceSub, Nat.reduceLeDiff, ↓reduceIte, decide_eq_true_eq, if_true, if_false, Bool.false_eq_true, Int.lt_irrefl, implies_true, true_and, and_true, eq_self, and_self, beq_self_eq_true, aw_plan (id := 4) plL25_25_4, plL25_25_4, g2]
            refine PC.step (q12) fun m7 j7 => ?_
            try simp only [Heap.next_push, Heap.next_set, Heap.next_kill, next_bump, next_E0] at j7
            simp (maxSteps := 1000000) (disch := first | exact sd | fail) only [go_sem, Nat.reduceAdd, Nat.reduceSub, Nat.reduceLeDiff, ↓reduceIte, decide_eq_true_eq, if_true, if_false, Bool.false_eq_true, Int.lt_irrefl, implies_true, true_and, and_true, eq_self, and_self, beq_self_eq_true, aw_plan (id := 4) plL25_25_4, plL25_25_4, show ¬ 0 < i12 by omega]
            by_cases d0 : 0 < i1
            · simp (maxSteps := 1000000) (disch := first | exact sd | fail) only [go_sem, Nat.reduceAdd, Nat.reduceSub, Nat.reduceLeDiff, ↓reduceIte, decide_eq_true_eq, if_true, if_false, Bool.false_eq_true, Int.lt_irrefl, implies_true, true_and, and_true, eq_self, and_self, beq_self_eq_true, aw_plan (id := 4) plL25_25_4, plL25_25_4, d0]
              refine PC.step (p100) fun m9 j9 => ?_
              try simp only [Heap.next_push, Heap.next_set, Heap.next_kill, next_bump, next_E0] at j9
              simp (maxSteps := 1000000) (disch := first | exact sd | fail) only [go_sem, Nat.reduceAdd, Nat.reduceSub, Nat.reduceLeDiff, ↓reduceIte, decide_eq_true_eq, if_true, if_false, Bool.false_eq_true, Int.lt_irrefl, implies_true, true_and, and_true, eq_self, and_self, beq_self_eq_true, aw_plan (id := 4) plL25_25_4, plL25_25_4]
              exact .rfl
            simp (maxSteps := 1000000) (disch := first | exact sd | fail) only [go_sem, Nat.reduceAdd, Nat.reduceSub, Nat.reduceLeDiff, ↓reduceIte, decide_eq_true_eq, if_true, if_false, Bool.false_eq_true, Int.lt_irrefl, implies_true, true_and, and_true, eq_self, and_self, beq_self_eq_true, aw_plan (id := 4) plL25_25_4, plL25_25_4, d0]
            refine PC.step (q13) fun m8 j8 => ?_
            try simp only [Heap.next_push, Heap.next_set, Heap.next_kill, next_bump, next_E0] at j8
            by_cases d1 : 0 < i13
            · simp (maxSteps := 1000000) (disch := first | exact sd | fail) only [go_sem, Nat.reduceAdd, Nat.reduceSub, Nat.reduceLeDiff, ↓reduceIte, decide_eq_true_eq, if_true, if_false, Bool.false_eq_true, Int.lt_irrefl, implies_true, true_and, and_true, eq_self, and_self, beq_self_eq_true, aw_plan (id := 4) plL25_25_4, plL25_25_4, d1]
              refine PC.step (p100) fun m9 j9 => ?_
              try simp only [Heap.next_push, Heap.next_set, Heap.next_kill, next_bump, next_E0] at j9
              simp (maxSteps := 1000000) (disch := first | exact sd | fail) only [go_sem, Nat.reduceAdd, Nat.reduceSub, Nat.reduceLeDiff, ↓reduceIte, decide_eq_true_eq, if_true, if_false, Bool.false_eq_true, Int.lt_irrefl, implies_true, true_and, and_true, eq_self, and_self, beq_self_eq_true, aw_plan (id := 4) plL25_25_4, plL25_25_4]
              exact .rfl
            have d2 : i14 ≤ 0 := e13 (by omega) (by omega)
            simp (maxSteps := 1000000) (disch := first | exact sd | fail) only [go_sem, Nat.reduceAdd, Nat.reduceSub, Nat.reduceLeDiff, ↓reduceIte, decide_eq_true_eq, if_true, if_false, Bool.false_eq_true, Int.lt_irrefl, implies_true, true_and, and_true, eq_self, and_self, beq_self_eq_true, aw_plan (id := 4) plL25_25_4, plL25_25_4, d1]
            refine PC.step (q14) fun m9 j9 => ?_
            try simp only [Heap.next_push, Heap.next_set, Heap.next_kill, next_bump, next_E0] at j9
            simp (maxSteps := 1000000) (disch := first | exact sd | fail) only [go_sem, Nat.reduceAdd, Nat.reduceSub, Nat.reduceLeDiff, ↓reduceIte, decide_eq_true_eq, if_true, if_false, Bool.false_eq_true, Int.lt_irrefl, implies_true, true_and, and_true, eq_self, and_self, beq_self_eq_true, aw_plan (id := 4) plL25_25_4, plL25_25_4, d2]
            refine PC.step (p100) fun m10 j10 => ?_
            try simp only [Heap.next_push, Heap.next_set, Heap.next_kill, next_bump, next_E0] at j10
            simp (maxSteps := 1000000) (disch := first | exact sd | fail) only [go_sem, Nat.reduceAdd, Nat.reduceSub, Nat.reduceLeDiff, ↓reduceIte, decide_eq_true_eq, if_true, if_false, Bool.false_eq_true, Int.lt_irrefl, implies_true, true_and, and_true, eq_self, and_self, beq_self_eq_true, aw_plan (id := 4) plL25_25_4, plL25_25_4]
            exact .rfl
          · have g1 : 0 ≤ i10 := by omega
            have g2 : ¬ i10 ≤ 0 := by omega
            have f4 := e11 f1 g1
            simp (maxSteps := 1000000) (disch := first | exact sd | fail) only [go_sem, Nat.reduceAdd, Nat.reduceSub, Nat.reduceLeDiff, ↓reduceIte, decide_eq_true_eq, if_true, if_false, Bool.false_eq_true, Int.lt_irrefl, implies_true, true_and, and_true, eq_self, and_self, beq_self_eq_true, aw_plan (id := 4) plL25_25_4, plL25_25_4, g1]
            refine PC.step (q11) fun m7 j7 => ?_
            try simp only [Heap.next_push, Heap.next_set, Heap.next_kill, next_bump, next_E0] at j7
            simp (maxSteps := 1000000) (disch := first | exact sd | fail) only [go_sem, Nat.reduceAdd, Nat.reduceSub, Nat.reduceLeDiff, ↓reduceIte, decide_eq_true_eq, if_true, if_false, Bool.false_eq_true, Int.lt_irrefl, implies_true, true_and, and_true, eq_self, and_self, beq_self_eq_true, aw_plan (id := 4) plL25_25_4, plL25_25_4, show ¬ i11 < 0 by omega]
            refine PC.step (q9) fun m7 j7 => ?_
            try simp only [Heap.next_push, Heap.next_set, Heap.next_kill, next_bump, next_E0] at j7
            simp (maxSteps := 1000000) (disch := first | exact sd | fail) only [go_sem, Nat.reduceAdd, Nat.reduceSub, Nat.reduceLeDiff, ↓reduceIte, decide_eq_true_eq, if_true, if_false, Bool.false_eq_true, Int.lt_irrefl, implies_true, true_and, and_true, eq_self, and_self, beq_self_eq_true, aw_plan (id := 4) plL25_25_4, plL25_25_4, f2]
            refine PC.step (q10) fun m7 j7 => ?_
            try simp only [Heap.next_push, Heap.next_set, Heap.next_kill, next_bump, next_E0] at j7
            simp (maxSteps := 1000000) (disch := first | exact sd | fail) only [go_sem, Nat.reduceAdd, Nat.reduceSub, Nat.reduceLeDiff, ↓reduceIte, decide_eq_true_eq, if_true, if_false, Bool.false_eq_true, Int.lt_irrefl, implies_true, true_and, and_true, eq_self, and_self, beq_self_eq_true, aw_plan (id := 4) plL25_25_4, plL25_25_4, g2]
            by_cases d0 : 0 < i1
            · simp (maxSteps := 1000000) (disch := first | exact sd | fail) only [go_sem, Nat.reduceAdd, Nat.reduceSub, Nat.reduceLeDiff, ↓reduceIte, decide_eq_true_eq, if_true, if_false, Bool.false_eq_true, Int.lt_irrefl, implies_true, true_and, and_true, eq_self, and_self, beq_self_eq_true, aw_plan (id := 4) plL25_25_4, plL25_25_4, d0]
              refine PC.step (p100) fun m9 j9 => ?_
              try simp only [Heap.next_push, Heap.next_set, Heap.next_kill, next_bump, next_E0] at j9
              simp (maxSteps := 1000000) (disch := first | exact sd | fail) only [go_sem, Nat.reduceAdd, Nat.reduceSub, Nat.reduceLeDiff, ↓reduceIte, decide_eq_true_eq, if_true, if_false, Bool.false_eq_true, Int.lt_irrefl, implies_true, true_and, and_true, eq_self, and_self, beq_self_eq_true, aw_plan (id := 4) plL25_25_4, plL25_25_4]
              exact .rfl
            simp (maxSteps := 1000000) (disch := first | exact sd | fail) only [go_sem, Nat.reduceAdd, Nat.reduceSub, Nat.reduceLeDiff, ↓reduceIte, decide_eq_true_eq, if_true, if_false, Bool.false_eq_true, Int.lt_irrefl, implies_true, true_and, and_true, eq_self, and_self, beq_self_eq_true, aw_plan (id := 4) plL25_25_4, plL25_25_4, d0]
            refine PC.step (q13) fun m8 j8 => ?_
            try simp only [Heap.next_push, Heap.next_set, Heap.next_kill, next_bump, next_E0] at j8
            by_cases d1 : 0 < i13
            · simp (maxSteps := 1000000) (disch := first | exact sd | fail) only [go_sem, Nat.reduceAdd, Nat.reduceSub, Nat.reduceLeDiff, ↓reduceIte, decide_eq_true_eq, if_true, if_false, Bool.false_eq_true, Int.lt_irrefl, implies_true, true_and, and_true, eq_self, and_self, beq_self_eq_true, aw_plan (id := 4) plL25_25_4, plL25_25_4, d1]
              refine PC.step (p100) fun m9 j9 => ?_
              try simp only [Heap.next_push, Heap.next_set, Heap.next_kill, next_bump, next_E0] at j9
              simp (maxSteps := 1000000) (disch := first | exact sd | fail) only [go_sem, Nat.reduceAdd, Nat.reduceSub, Nat.reduceLeDiff, ↓reduceIte, decide_eq_true_eq, if_true, if_false, Bool.false_eq_true, Int.lt_irrefl, implies_true, true_and, and_true, eq_self, and_self, beq_self_eq_true, aw_plan (id := 4) plL25_25_4, plL25_25_4]
              exact .rfl
            have d2 : i14 ≤ 0 := e13 (by omega) (by omega)
            simp (maxSteps := 1000000) (disch := first | exact sd | fail) only [go_sem, Nat.reduceAdd, Nat.reduceSub, Nat.reduceLeDiff, ↓reduceIte, decide_eq_true_eq, if_true, if_false, Bool.false_eq_true, Int.lt_irrefl, implies_true, true_and, and_true, eq_self, and_self, beq_self_eq_true, aw_plan (id := 4) plL25_25_4, plL25_25_4, d1]
            refine PC.step (q14) fun m9 j9 => ?_
            try simp only [Heap.next_push, Heap.next_set, Heap.next_kill, next_bump, next_E0] at j9
            simp (maxSteps := 1000000) (disch := first | exact sd | fail) only [go_sem, Nat.reduceAdd, Nat.reduceSub, Nat.reduceLeDiff, ↓reduceIte, decide_eq_true_eq, if_true, if_false, Bool.false_eq_true, Int.lt_irrefl, implies_true, true_and, and_true, eq_self, and_self, beq_self_eq_true, aw_plan (id := 4) plL25_25_4, plL25_25_4, d2]
            refine PC.step (p100) fun m10 j10 => ?_
            try simp only [Heap.next_push, Heap.next_set, Heap.next_kill, next_bump, next_E0] at j10
            simp (maxSteps := 1000000) (disch := first | exact sd | fail) only [go_sem, Nat.reduceAdd, Nat.reduceSub, Nat.reduceLeDiff, ↓reduceIte, decide_eq_true_eq, if_true, if_false, Bool.false_eq_true, Int.lt_irrefl, implies_true, true_and, and_true, eq_self, and_self, beq_self_eq_true, aw_plan (id := 4) plL25_25_4, plL25_25_4]
            exact .rfl
        · have f1 : 0 ≤ i9 := by omega
          have f2 : ¬ i9 ≤ 0 := by omega
          simp (maxSteps := 1000000) (disch := first | exact sd | fail) only [go_sem, Nat.reduceAdd, Nat.reduceSub, Nat.reduceLeDiff, ↓reduceIte, decide_eq_true_eq, if_true, if_false, Bool.false_eq_true, Int.lt_irrefl, implies_true, true_and, and_true, eq_self, and_self, beq_self_eq_true, aw_plan (id := 4) plL25_25_4, plL25_25_4, f1]
          refine PC.step (q10) fun m7 j7 => ?_
          try simp only [Heap.next_push, Heap.next_set, Heap.next_kill, next_bump, next_E0] at j7
          by_cases g1 : 0 ≤ i10
          · have f4 := e11 f1 g1
            simp (maxSteps := 1000000) (disch := first | exact sd | fail) only [go_sem, Nat.reduceAdd, Nat.reduceSub, Nat.reduceLeDiff, ↓reduceIte, decide_eq_true_eq, if_true, if_false, Bool.false_eq_true, Int.lt_irrefl, implies_true, true_and, and_true, eq_self, and_self, beq_self_eq_true, aw_plan (id := 4) plL25_25_4, plL25_25_4, g1]
            refine PC.step (q11) fun m7 j7 => ?_
            try simp only [Heap.next_push, Heap.next_set, Heap.next_kill, next_bump, next_E0] at j7
            simp (maxSteps := 1000000) (disch := first | exact sd | fail) only [go_sem, Nat.reduceAdd, Nat.reduceSub, Nat.reduceLeDiff, ↓reduceIte, decide_eq_true_eq, if_true, if_false, Bool.false_eq_true, Int.lt_irrefl, implies_true, true_and, and_true, eq_self, and_self, beq_self_eq_true, aw_plan (id := 4) plL25_25_4, plL25_25_4, show ¬ i11 < 0 by omega]
            refine PC.step (q9) fun m7 j7 => ?_
            try simp only [Heap.next_push, Heap.next_set, Heap.next_kill, next_bump, next_E0] at j7
            simp (maxSteps := 1000000) (disch := first | exact sd | fail) only [go_sem, Nat.reduceAdd, Nat.reduceSub, Nat.reduceLeDiff, ↓reduceIte, decide_eq_true_eq, if_true, if_false, Bool.false_eq_true, Int.lt_irrefl, implies_true, true_and, and_true, eq_self, and_self, beq_self_eq_true, aw_plan (id := 4) plL25_25_4, plL25_25_4, f2]
            by_cases d0 : 0 < i1
            · simp (maxSteps := 1000000) (disch := first | exact sd | fail) only [go_sem, Nat.reduceAdd, Nat.reduceSub, Nat.reduceLeDiff, ↓reduceIte, decide_eq_true_eq, if_true, if_false, Bool.false_eq_true, Int.lt_irrefl, implies_true, true_and, and_true, eq_self, and_self, beq_self_eq_true, aw_plan (id := 4) plL25_25_4, plL25_25_4, d0]
              refine PC.step (p100) fun m9 j9 => ?_
              try simp only [Heap.next_push, Heap.next_set, Heap.next_kill, next_bump, next_E0] at j9
              simp (maxSteps := 1000000) (disch := first | exact sd | fail) only [go_sem, Nat.reduceAdd, Nat.reduceSub, Nat.reduceLeDiff, ↓reduceIte, decide_eq_true_eq, if_true, if_false, Bool.false_eq_true, Int.lt_irrefl, implies_true, true_and, and_true, eq_self, and_self, beq_self_eq_true, aw_plan (id := 4) plL25_25_4, plL25_25_4]
              exact .rfl
            simp (maxSteps := 1000000) (disch := first | exact sd | fail) only [go_sem, Nat.reduceAdd, Nat.reduceSub, Nat.reduceLeDiff, ↓reduceIte, decide_eq_true_eq, if_true, if_false, Bool.false_eq_true, Int.lt_irrefl, implies_true, true_and, and_true, eq_self, and_self, beq_self_eq_true, aw_plan (id := 4) plL25_25_4, plL25_25_4, d0]
            refine PC.step (q13) fun m8 j8 => ?_
            try simp only [Heap.next_push, Heap.next_set, Heap.next_kill, next_bump, next_E0] at j8
            by_cases d1 : 0 < i13
            · simp (maxSteps := 1000000) (disch := first | exact sd | fail) only [go_sem, Nat.reduceAdd, Nat.reduceSub, Nat.reduceLeDiff, ↓reduceIte, decide_eq_true_eq, if_true, if_false, Bool.false_eq_true, Int.lt_irrefl, implies_true, true_and, and_true, eq_self, and_self, beq_self_eq_true, aw_plan (id := 4) plL25_25_4, plL25_25_4, d1]
              refine PC.step (p100) fun m9 j9 => ?_
              try simp only [Heap.next_push, Heap.next_set, Heap.next_kill, next_bump, next_E0] at j9
              simp (maxSteps := 1000000) (disch := first | exact sd | fail) only [go_sem, Nat.reduceAdd, Nat.reduceSub, Nat.reduceLeDiff, ↓reduceIte, decide_eq_true_eq, if_true, if_false, Bool.false_eq_true, Int.lt_irrefl, implies_true, true_and, and_true, eq_self, and_self, beq_self_eq_true, aw_plan (id := 4) plL25_25_4, plL25_25_4]
              exact .rfl
            have d2 : i14 ≤ 0 := e13 (by omega) (by omega)
            simp (maxSteps := 1000000) (disch := first | exact sd | fail) only [go_sem, Nat.reduceAdd, Nat.reduceSub, Nat.reduceLeDiff, ↓reduceIte, decide_eq_true_eq, if_true, if_false, Bool.false_eq_true, Int.lt_irrefl, implies_true, true_and, and_true, eq_self, and_self, beq_self_eq_true, aw_plan (id := 4) plL25_25_4, plL25_25_4, d1]
            refine PC.step (q14) fun m9 j9 => ?_
            try simp only [Heap.next_push, Heap.next_set, Heap.next_kill, next_bump, next_E0] at j9
            simp (maxSteps := 1000000) (disch := first | exact sd | fail) only [go_sem, Nat.reduceAdd, Nat.reduceSub, Nat.reduceLeDiff, ↓reduceIte, decide_eq_true_eq, if_true, if_false, Bool.false_eq_true, Int.lt_irrefl, implies_true, true_and, and_true, eq_self, and_self, beq_self_eq_true, aw_plan (id := 4) plL25_25_4, plL25_25_4, d2]
            refine PC.step (p100) fun m10 j10 => ?_
            try simp only [Heap.next_push, Heap.next_set, Heap.next_kill, next_bump, next_E0] at j10
            simp (maxSteps := 1000000) (disch := first | exact sd | fail) only [go_sem, Nat.reduceAdd, Nat.reduceSub, Nat.reduceLeDiff, ↓reduceIte, decide_eq_true_eq, if_true, if_false, Bool.false_eq_true, Int.lt_irrefl, implies_true, true_and, and_true, eq_self, and_self, beq_self_eq_true, aw_plan (id := 4) plL25_25_4, plL25_25_4]
            exact .rfl
          · simp (maxSteps := 1000000) (disch := first | exact sd | fail) only [go_sem, Nat.reduceAdd, Nat.reduceSub, Nat.reduceLeDiff, ↓reduceIte, decide_eq_true_eq, if_true, if_false, Bool.false_eq_true, Int.lt_irrefl, implies_true, true_and, and_true, eq_self, and_self, beq_self_eq_true, aw_plan (id := 4) plL25_25_4, plL25_25_4, g1]
            refine PC.step (q9) fun m7 j7 => ?_
            try simp only [Heap.next_push, Heap.next_set, Heap.next_kill, next_bump, next_E0] at j7
            simp (maxSteps := 1000000) (disch := first | exact sd | fail) only [go_sem, Nat.reduceAdd, Nat.reduceSub, Nat.reduceLeDiff, ↓reduceIte, decide_eq_true_eq, if_true, if_false, Bool.false_eq_true, Int.lt_irrefl, implies_true, true_and, and_true, eq_self, and_self, beq_self_eq_true, aw_plan (id := 4) plL25_25_4, plL25_25_4, f2]
            by_cases d0 : 0 < i1
            · simp (maxSteps := 1000000) (disch := first | exact sd | fail) only [go_sem, Nat.reduceAdd, Nat.reduceSub, Nat.reduceLeDiff, ↓reduceIte, decide_eq_true_eq, if_true, if_false, Bool.false_eq_true, Int.lt_irrefl, implies_true, true_and, and_true, eq_self, and_self, beq_self_eq_true, aw_plan (id := 4) plL25_25_4, plL25_25_4, d0]
              refine PC.step (p100) fun m9 j9 => ?_
              try simp only [Heap.next_push, Heap.next_set, Heap.next_kill, next_bump, next_E0] at j9
              simp (maxSteps := 1000000) (disch := first | exact sd | fail) only [go_sem, Nat.reduceAdd, Nat.reduceSub, Nat.reduceLeDiff, ↓reduceIte, decide_eq_true_eq, if_true, if_false, Bool.false_eq_true, Int.lt_irrefl, implies_true, true_and, and_true, eq_self, and_self, beq_self_eq_true, aw_plan (id := 4) plL25_25_4, plL25_25_4]
              exact .rfl
            simp (maxSteps := 1000000) (disch := first | exact sd | fail) only [go_sem, Nat.reduceAdd, Nat.reduceSub, Nat.reduceLeDiff, ↓reduceIte, decide_eq_true_eq, if_true, if_false, Bool.false_eq_true, Int.lt_irrefl, implies_true, true_and, and_true, eq_self, and_self, beq_self_eq_true, aw_plan (id := 4) plL25_25_4, plL25_25_4, d0]
            refine PC.step (q13) fun m8 j8 => ?_
            try simp only [Heap.next_push, Heap.next_set, Heap.next_kill, next_bump, next_E0] at j8
            by_cases d1 : 0 < i13
            · simp (maxSteps := 1000000) (disch := first | exact sd | fail) only [go_sem, Nat.reduceAdd, Nat.reduceSub, Nat.reduceLeDiff, ↓reduceIte, decide_eq_true_eq, if_true, if_false, Bool.false_eq_true, Int.lt_irrefl, implies_true, true_and, and_true, eq_self, and_self, beq_self_eq_true, aw_plan (id := 4) plL25_25_4, plL25_25_4, d1]
              refine PC.step (p100) fun m9 j9 => ?_
              try simp only [Heap.next_push, Heap.next_set, Heap.next_kill, next_bump, next_E0] at j9
              simp (maxSteps := 1000000) (disch := first | exact sd | fail) only [go_sem, Nat.reduceAdd, Nat.reduceSub, Nat.reduceLeDiff, ↓reduceIte, decide_eq_true_eq, if_true, if_false, Bool.false_eq_true, Int.lt_irrefl, implies_true, true_and, and_true, eq_self, and_self, beq_self_eq_true, aw_plan (id := 4) plL25_25_4, plL25_25_4]
              exact .rfl
            have d2 : i14 ≤ 0 := e13 (by omega) (by omega)
            simp (maxSteps := 1000000) (disch := first | exact sd | fail) only [go_sem, Nat.reduceAdd, Nat.reduceSub, Nat.reduceLeDiff, ↓reduceIte, decide_eq_true_eq, if_true, if_false, Bool.false_eq_true, Int.lt_irrefl, implies_true, true_and, and_true, eq_self, and_self, beq_self_eq_true, aw_plan (id := 4) plL25_25_4, plL25_25_4, d1]
            refine PC.step (q14) fun m9 j9 => ?_
            try simp only [Heap.next_push, Heap.next_set, Heap.next_kill, next_bump, next_E0] at j9
            simp (maxSteps := 1000000) (disch := first | exact sd | fail) only [go_sem, Nat.reduceAdd, Nat.reduceSub, Nat.reduceLeDiff, ↓reduceIte, decide_eq_true_eq, if_true, if_false, Bool.false_eq_true, Int.lt_irrefl, implies_true, true_and, and_true, eq_self, and_self, beq_self_eq_true, aw_plan (id := 4) plL25_25_4, plL25_25_4, d2]
            refine PC.step (p100) fun m10 j10 => ?_
            try simp only [Heap.next_push, Heap.next_set, Heap.next_kill, next_bump, next_E0] at j10
            simp (maxSteps := 1000000) (disch := first | exact sd | fail) only [go_sem, Nat.reduceAdd, Nat.reduceSub, Nat.reduceLeDiff, ↓reduceIte, decide_eq_true_eq, if_true, if_false, Bool.false_eq_true, Int.lt_irrefl, implies_true, true_and, and_true, eq_self, and_self, beq_self_eq_true, aw_plan (id := 4) plL25_25_4, plL25_25_4]
            exact .rfl
theorem lawExtOrders {H : Heap} {xs : List Value} (hf : ∀ b, H.next ≤ b → H.get b = none) (hg : GoodArgs Try.prog H 8 [28, 28, 28] xs) : ACalls Try.prog 4 xs H fun v _ => v = .bool true := by
  obtain ⟨ps, h1, h2, h3⟩ := args_frz hf (by intro t ht; simp only [List.mem_cons, List.not_mem_nil, or_false] at ht; rcases ht with rfl | rfl | rfl <;> kernel_rfl) hg
  obtain ⟨p0, ps0, rfl, a0, r0⟩ := h3.cons
  obtain ⟨a, rfl, ha⟩ := a0.ext
  obtain ⟨p1, ps1, rfl, a1, r1⟩ := r0.cons
  obtain ⟨b, rfl, hb⟩ := a1.ext
  obtain ⟨p2, ps2, rfl, a2, r2⟩ := r1.cons
  obtain ⟨c, rfl, hc⟩ := a2.ext
  obtain rfl := r2.nil
  exact (q25 ha hb hc).law h1
end Go.Abs
