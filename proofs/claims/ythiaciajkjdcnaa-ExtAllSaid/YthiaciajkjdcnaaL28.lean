/- ExtAll, on values. -/
import Derived.Test.YthiaciajkjdcnaaW7
set_option linter.unusedVariables false
set_option linter.unusedSimpArgs false
namespace Go.Abs
open Go Go.Proofs
set_option maxRecDepth 100000
set_option maxHeartbeats 40000000
def plL28_28_3 : Plan := ⟨[0, 2], [(1, [2], []), (3, [], [4, 5, 6, 7, 9, 10]), (8, [10, 9], []), (11, [], [12, 13, 14, 15, 16, 18, 19]), (17, [19, 18], []), (20, [], []), (21, [], [22, 23, 24, 25, 27, 28]), (26, [28, 27], []), (29, [], []), (30, [], [31, 32, 33, 34, 36, 37]), (35, [37, 36], []), (38, [], []), (39, [], [40, 41, 42, 44]), (43, [44], []), (45, [], [46, 47, 48, 49, 51, 52]), (50, [52], []), (53, [], []), (54, [], [55, 56]), (57, [], [58, 59])]⟩
theorem q28 {a b : RX} {c : RQ} (ha : LimX a) (hb : LimX b) (hc : LimQ c) : PC Try.prog 7 [.agg ⟨eX.enc a⟩, .agg ⟨eX.enc b⟩, .agg ⟨eQ.enc c⟩] (.bool true) := by
  refine PC.of (.cons pu_x5 (.cons pu_x5 (.cons pu_r4 .nil))) (.ground rfl) fun N hN => ?_
  refine ACalls.of_code T.hm (n := 73) Try.func7 rfl rfl rfl rfl ?_; simp only [List.replicate_succ, List.replicate_zero, List.cons_append, List.nil_append]
  simp (maxSteps := 1000000) (disch := first | exact sd | fail) only [go_sem, Nat.reduceAdd, Nat.reduceSub, Nat.reduceLeDiff, ↓reduceIte, decide_eq_true_eq, if_true, if_false, Bool.false_eq_true, Int.lt_irrefl, implies_true, true_and, and_true, eq_self, and_self, beq_self_eq_true, aw_plan (id := 3) plL28_28_3, plL28_28_3]
  refine s99 (ls := [a, b]) (by simp (maxSteps := 1000000) (disch := first | exact sd | fail) only [go_sem, Nat.reduceAdd, Nat.reduceSub, Nat.reduceLeDiff, ↓reduceIte, decide_eq_true_eq, if_true, if_false, Bool.false_eq_true, Int.lt_irrefl, implies_true, true_and, and_true, eq_self, and_self, beq_self_eq_true, aw_plan (id := 3) plL28_28_3, plL28_28_3]; rfl) (by simp (maxSteps := 1000000) (disch := first | exact sd | fail) only [go_sem, Nat.reduceAdd, Nat.reduceSub, Nat.reduceLeDiff, ↓reduceIte, decide_eq_true_eq, if_true, if_false, Bool.false_eq_true, Int.lt_irrefl, implies_true, true_and, and_true, eq_self, and_self, beq_self_eq_true, aw_plan (id := 3) plL28_28_3, plL28_28_3]; omega) rfl rfl (by simp) ?_
  rw [List.any_cons, List.any_cons, List.any_nil, Bool.or_false]
  cases ga : gx a with
  | true =>
    simp (maxSteps := 1000000) (disch := first | exact sd | fail) only [go_sem, Nat.reduceAdd, Nat.reduceSub, Nat.reduceLeDiff, ↓reduceIte, decide_eq_true_eq, if_true, if_false, Bool.false_eq_true, Int.lt_irrefl, implies_true, true_and, and_true, eq_self, and_self, beq_self_eq_true, aw_plan (id := 3) plL28_28_3, plL28_28_3, Bool.true_or]
    refine PC.step (p100) fun m1 j1 => ?_
    try simp only [Heap.next_push, Heap.next_set, Heap.next_kill, next_bump, next_E0] at j1
    simp (maxSteps := 1000000) (disch := first | exact sd | fail) only [go_sem, Nat.reduceAdd, Nat.reduceSub, Nat.reduceLeDiff, ↓reduceIte, decide_eq_true_eq, if_true, if_false, Bool.false_eq_true, Int.lt_irrefl, implies_true, true_and, and_true, eq_self, and_self, beq_self_eq_true, aw_plan (id := 3) plL28_28_3, plL28_28_3]
    exact .rfl
  | false =>
    cases gb : gx b with
    | true =>
      simp (maxSteps := 1000000) (disch := first | exact sd | fail) only [go_sem, Nat.reduceAdd, Nat.reduceSub, Nat.reduceLeDiff, ↓reduceIte, decide_eq_true_eq, if_true, if_false, Bool.false_eq_true, Int.lt_irrefl, implies_true, true_and, and_true, eq_self, and_self, beq_self_eq_true, aw_plan (id := 3) plL28_28_3, plL28_28_3, Bool.or_true]
      refine PC.step (p100) fun m1 j1 => ?_
      try simp only [Heap.next_push, Heap.next_set, Heap.next_kill, next_bump, next_E0] at j1
      simp (maxSteps := 1000000) (disch := first | exact sd | fail) only [go_sem, Nat.reduceAdd, Nat.reduceSub, Nat.reduceLeDiff, ↓reduceIte, decide_eq_true_eq, if_true, if_false, Bool.false_eq_true, Int.lt_irrefl, implies_true, true_and, and_true, eq_self, and_self, beq_self_eq_true, aw_plan (id := 3) plL28_28_3, plL28_28_3]
      exact .rfl
    | false =>
      have ra := gx_rx ha ga
      have rb := gx_rx hb gb
      simp (maxSteps := 1000000) (disch := first | exact sd | fail) only [go_sem, Nat.reduceAdd, Nat.reduceSub, Nat.reduceLeDiff, ↓reduceIte, decide_eq_true_eq, if_true, if_false, Bool.false_eq_true, Int.lt_irrefl, implies_true, true_and, and_true, eq_self, and_self, beq_self_eq_true, aw_plan (id := 3) plL28_28_3, plL28_28_3, Bool.or_false]
      refine s69 (pn := c.p.neg) (pl := c.p.l) (qn := c.q.neg) (ql := c.q.l) (by simp (maxSteps := 1000000) (disch := first | exact sd | fail) only [go_sem, Nat.reduceAdd, Nat.reduceSub, Nat.reduceLeDiff, ↓reduceIte, decide_eq_true_eq, if_true, if_false, Bool.false_eq_true, Int.lt_irrefl, implies_true, true_and, and_true, eq_self, and_self, beq_self_eq_true, aw_plan (id := 3) plL28_28_3, plL28_28_3]) (by simp (maxSteps := 1000000) (disch := first | exact sd | fail) only [go_sem, Nat.reduceAdd, Nat.reduceSub, Nat.reduceLeDiff, ↓reduceIte, decide_eq_true_eq, if_true, if_false, Bool.false_eq_true, Int.lt_irrefl, implies_true, true_and, and_true, eq_self, and_self, beq_self_eq_true, aw_plan (id := 3) plL28_28_3, plL28_28_3]; omega) ?_
      cases gc : gq c with
      | true =>
        simp (maxSteps := 1000000) (disch := first | exact sd | fail) only [go_sem, Nat.reduceAdd, Nat.reduceSub, Nat.reduceLeDiff, ↓reduceIte, decide_eq_true_eq, if_true, if_false, Bool.false_eq_true, Int.lt_irrefl, implies_true, true_and, and_true, eq_self, and_self, beq_self_eq_true, aw_plan (id := 3) plL28_28_3, plL28_28_3]
        refine PC.step (p100) fun m1 j1 => ?_
        try simp only [Heap.next_push, Heap.next_set, Heap.next_kill, next_bump, next_E0] at j1
        simp (maxSteps := 1000000) (disch := first | exact sd | fail) only [go_sem, Nat.reduceAdd, Nat.reduceSub, Nat.reduceLeDiff, ↓reduceIte, decide_eq_true_eq, if_true, if_false, Bool.false_eq_true, Int.lt_irrefl, implies_true, true_and, and_true, eq_self, and_self, beq_self_eq_true, aw_plan (id := 3) plL28_28_3, plL28_28_3]
        exact .rfl
      | false =>
        obtain ⟨rc, lc⟩ := gq_rzw hc gc
        have xa := lx_vx ra (by decide)
        have xb := lx_vx rb (by decide)
        have l1 := lx_mx (vx a) (vx b) xa xb
        have l2 := lx_mn (vx a) (vx b) xa xb
        have l3 := lx_ad (vx a) (vq c)
        have ra' := ra.mono (show 6 ≤ 2 ^ 30 by decide)
        have rb' := rb.mono (show 6 ≤ 2 ^ 30 by decide)
        have ra2 := ra.mono (show 6 ≤ 2 ^ 20 by decide)
        have q1 := p107v ra'
        have q2 := p108v ra'
        have q3 := p102v ra' rb'
        have q4 := p109v ra' rb'
        have q5 := p103v ra' rb'
        have q6 := p110v ra' rb'
        have q7 := p104v ra' rb'
        have q8 := p111v ra' rb'
        have q9 := p106v ra' rc
        have q10 := p112v ra' rc
        have q11 := p101v ra2
        have q12 := p113v ra2
        have q13 := p114v rc
        have q14 := p112v (a := ⟨0, eQ.d⟩) ⟨Lim.nil, Lim.nil, Nat.zero_le _, Nat.zero_le _⟩ rc
        rw [vx_zero, show adX (.fin 0) (vq c) = .fin (0 + vq c) from rfl, Rat.zero_add] at q14
        have q15 := p105 (a := mxX (vx a) (vx b)) (by omega) rfl
        have q16 := p105 (a := mnX (vx a) (vx b)) (by omega) rfl
        have q17 := p105 (a := adX (vx a) (vq c)) (by omega) rfl
        have q18 := p105 (a := XR.fin (vq c)) (by show lq (vq c) ≤ _; omega) rfl
        generalize cx (vx a) (vx b) = i1 at *
        generalize mxX (vx a) (vx b) = m at *
        generalize mnX (vx a) (vx b) = n at *
        generalize adX (vx a) (vq c) = d at *
        generalize mayX a.kind a.v.p.neg a.v.p.l a.v.q.neg a.v.q.l = t at *
        generalize txtX (vx a) = u at *
        generalize XR.fin (vq c) = f at *
        clear ra rb xa xb l1 l2 l3 ra' rb' ra2 lc ha hb hc ga gb
        simp (maxSteps := 1000000) (disch := first | exact sd | fail) only [go_sem, Nat.reduceAdd, Nat.reduceSub, Nat.reduceLeDiff, ↓reduceIte, decide_eq_true_eq, if_true, if_false, Bool.false_eq_true, Int.lt_irrefl, implies_true, true_and, and_true, eq_self, and_self, beq_self_eq_true, aw_plan (id := 3) plL28_28_3, plL28_28_3]
        refine PC.step (q1) fun m1 j1 => ?_
        try simp only [Heap.next_push, Heap.next_set, Heap.next_kill, next_bump, next_E0] at j1
        simp (maxSteps := 1000000) (disch := first | exact sd | fail) only [go_sem, Nat.reduceAdd, Nat.reduceSub, Nat.reduceLeDiff, ↓reduceIte, decide_eq_true_eq, if_true, if_false, Bool.false_eq_true, Int.lt_irrefl, implies_true, true_and, and_true, eq_self, and_self, beq_self_eq_true, aw_plan (id := 3) plL28_28_3, plL28_28_3]
        refine PC.step (q2) fun m2 j2 => ?_
        try simp only [Heap.next_push, Heap.next_set, Heap.next_kill, next_bump, next_E0] at j2
        simp (maxSteps := 1000000) (disch := first | exact sd | fail) only [go_sem, Nat.reduceAdd, Nat.reduceSub, Nat.reduceLeDiff, ↓reduceIte, decide_eq_true_eq, if_true, if_false, Bool.false_eq_true, Int.lt_irrefl, implies_true, true_and, and_true, eq_self, and_self, beq_self_eq_true, aw_plan (id := 3) plL28_28_3, plL28_28_3]
        refine PC.step (q3) fun m3 j3 => ?_
        try simp only [Heap.next_push, Heap.next_set, Heap.next_kill, next_bump, next_E0] at j3
        simp (maxSteps := 1000000) (disch := first | exact sd | fail) only [go_sem, Nat.reduceAdd, Nat.reduceSub, Nat.reduceLeDiff, ↓reduceIte, decide_eq_true_eq, if_true, if_false, Bool.false_eq_true, Int.lt_irrefl, implies_true, true_and, and_true, eq_self, and_self, beq_self_eq_true, aw_plan (id := 3) plL28_28_3, plL28_28_3]
        refine PC.step (q4) fun m4 j4 => ?_
        try simp only [Heap.next_push, Heap.next_set, Heap.next_kill, next_bump, next_E0] at j4
        simp (maxSteps := 1000000) (disch := first | exact sd | fail) only [go_sem, Nat.reduceAdd, Nat.reduceSub, Nat.reduceLeDiff, ↓reduceIte, decide_eq_true_eq, if_true, if_false, Bool.false_eq_true, Int.lt_irrefl, implies_true, true_and, and_true, eq_self, and_self, beq_self_eq_true, aw_plan (id := 3) plL28_28_3, plL28_28_3]
        refine PC.step (q5) fun m5 j5 => ?_
        try simp only [Heap.next_push, Heap.next_set, Heap.next_kill, next_bump, next_E0] at j5
        simp (maxSteps := 1000000) (disch := first | exact sd | fail) only [go_sem, Nat.reduceAdd, Nat.reduceSub, Nat.reduceLeDiff, ↓reduceIte, decide_eq_true_eq, if_true, if_false, Bool.false_eq_true, Int.lt_irrefl, implies_true, true_and, and_true, eq_self, and_self, beq_self_eq_true, aw_plan (id := 3) plL28_28_3, plL28_28_3]
        refine PC.step (q6) fun m6 j6 => ?_
        try simp only [Heap.next_push, Heap.next_set, Heap.next_kill, next_bump, next_E0] at j6
        simp (maxSteps := 1000000) (disch := first | exact sd | fail) only [go_sem, Nat.reduceAdd, Nat.reduceSub, Nat.reduceLeDiff, ↓reduceIte, decide_eq_true_eq, if_true, if_false, Bool.false_eq_true, Int.lt_irrefl, implies_true, true_and, and_true, eq_self, and_self, beq_self_eq_true, aw_plan (id := 3) plL28_28_3, plL28_28_3]
        refine PC.step (q15) fun m7 j7 => ?_
        try simp only [Heap.next_push, Heap.next_set, Heap.next_kill, next_bump, next_E0] at j7
        simp (maxSteps := 1000000) (disch := first | exact sd | fail) only [go_sem, Nat.reduceAdd, Nat.reduceSub, Nat.reduceLeDiff, ↓reduceIte, decide_eq_true_eq, if_true, if_false, Bool.false_eq_true, Int.lt_irrefl, implies_true, true_and, and_true, eq_self, and_self, beq_self_eq_true, aw_plan (id := 3) plL28_28_3, plL28_28_3]
        refine PC.step (q7) fun m8 j8 => ?_
        try simp only [Heap.next_push, Heap.next_set, Heap.next_kill, next_bump, next_E0] at j8
        simp (maxSteps := 1000000) (disch := first | exact sd | fail) only [go_sem, Nat.reduceAdd, Nat.reduceSub, Nat.reduceLeDiff, ↓reduceIte, decide_eq_true_eq, if_true, if_false, Bool.false_eq_true, Int.lt_irrefl, implies_true, true_and, and_true, eq_self, and_self, beq_self_eq_true, aw_plan (id := 3) plL28_28_3, plL28_28_3]
        refine PC.step (q8) fun m9 j9 => ?_
        try simp only [Heap.next_push, Heap.next_set, Heap.next_kill, next_bump, next_E0] at j9
        simp (maxSteps := 1000000) (disch := first | exact sd | fail) only [go_sem, Nat.reduceAdd, Nat.reduceSub, Nat.reduceLeDiff, ↓reduceIte, decide_eq_true_eq, if_true, if_false, Bool.false_eq_true, Int.lt_irrefl, implies_true, true_and, and_true, eq_self, and_self, beq_self_eq_true, aw_plan (id := 3) plL28_28_3, plL28_28_3]
        refine PC.step (q16) fun m10 j10 => ?_
        try simp only [Heap.next_push, Heap.next_set, Heap.next_kill, next_bump, next_E0] at j10
        simp (maxSteps := 1000000) (disch := first | exact sd | fail) only [go_sem, Nat.reduceAdd, Nat.reduceSub, Nat.reduceLeDiff, ↓reduceIte, decide_eq_true_eq, if_true, if_false, Bool.false_eq_true, Int.lt_irrefl, implies_true, true_and, and_true, eq_self, and_self, beq_self_eq_true, aw_plan (id := 3) plL28_28_3, plL28_28_3]
        refine PC.step (q9) fun m11 j11 => ?_
        try simp only [Heap.next_push, Heap.next_set, Heap.next_kill, next_bump, next_E0] at j11
        simp (maxSteps := 1000000) (disch := first | exact sd | fail) only [go_sem, Nat.reduceAdd, Nat.reduceSub, Nat.reduceLeDiff, ↓reduceIte, decide_eq_true_eq, if_true, if_false, Bool.false_eq_true, Int.lt_irrefl, implies_true, true_and, and_true, eq_self, and_self, beq_self_eq_true, aw_plan (id := 3) plL28_28_3, plL28_28_3]
        refine PC.step (q10) fun m12 j12 => ?_
        try simp only [Heap.next_push, Heap.next_set, Heap.next_kill, next_bump, next_E0] at j12
        simp (maxSteps := 1000000) (disch := first | exact sd | fail) only [go_sem, Nat.reduceAdd, Nat.reduceSub, Nat.reduceLeDiff, ↓reduceIte, decide_eq_true_eq, if_true, if_false, Bool.false_eq_true, Int.lt_irrefl, implies_true, true_and, and_true, eq_self, and_self, beq_self_eq_true, aw_plan (id := 3) plL28_28_3, plL28_28_3]
        refine PC.step (q17) fun m13 j13 => ?_
        try simp only [Heap.next_push, Heap.next_set, Heap.next_kill, next_bump, next_E0] at j13
        simp (maxSteps := 1000000) (disch := first | exact sd | fail) only [go_sem, Nat.reduceAdd, Nat.reduceSub, Nat.reduceLeDiff, ↓reduceIte, decide_eq_true_eq, if_true, if_false, Bool.false_eq_true, Int.lt_irrefl, implies_true, true_and, and_true, eq_self, and_self, beq_self_eq_true, aw_plan (id := 3) plL28_28_3, plL28_28_3]
        refine PC.step (q11) fun m14 j14 => ?_
        try simp only [Heap.next_push, Heap.next_set, Heap.next_kill, next_bump, next_E0] at j14
        simp (maxSteps := 1000000) (disch := first | exact sd | fail) only [go_sem, Nat.reduceAdd, Nat.reduceSub, Nat.reduceLeDiff, ↓reduceIte, decide_eq_true_eq, if_true, if_false, Bool.false_eq_true, Int.lt_irrefl, implies_true, true_and, and_true, eq_self, and_self, beq_self_eq_true, aw_plan (id := 3) plL28_28_3, plL28_28_3]
        refine PC.step (q12) fun m15 j15 => ?_
        try simp only [Heap.next_push, Heap.next_set, Heap.next_kill, next_bump, next_E0] at j15
        simp (maxSteps := 1000000) (disch := first | exact sd | fail) only [go_sem, Nat.reduceAdd, Nat.reduceSub, Nat.reduceLeDiff, ↓reduceIte, decide_eq_true_eq, if_true, if_false, Bool.false_eq_true, Int.lt_irrefl, implies_true, true_and, and_true, eq_self, and_self, beq_self_eq_true, aw_plan (id := 3) plL28_28_3, plL28_28_3]
        refine PC.step (q13) fun m16 j16 => ?_
        try simp only [Heap.next_push, Heap.next_set, Heap.next_kill, next_bump, next_E0] at j16
        simp (maxSteps := 1000000) (disch := first | exact sd | fail) only [go_sem, Nat.reduceAdd, Nat.reduceSub, Nat.reduceLeDiff, ↓reduceIte, decide_eq_true_eq, if_true, if_false, Bool.false_eq_true, Int.lt_irrefl, implies_true, true_and, and_true, eq_self, and_self, beq_self_eq_true, aw_plan (id := 3) plL28_28_3, plL28_28_3]
        refine ACalls.nz (ps := [.agg ⟨eX.enc ⟨0, eQ.d⟩⟩, .agg ⟨eQ.enc c⟩]) (.cons (.agg (.cons .rfl (.cons .rfl (.cons .vnil (.cons .rfl (.cons .vnil .nil)))))) (.cons .rfl .nil)) ?_
        refine PC.step (q14) fun m17 j17 => ?_
        try simp only [Heap.next_push, Heap.next_set, Heap.next_kill, next_bump, next_E0] at j17
        simp (maxSteps := 1000000) (disch := first | exact sd | fail) only [go_sem, Nat.reduceAdd, Nat.reduceSub, Nat.reduceLeDiff, ↓reduceIte, decide_eq_true_eq, if_true, if_false, Bool.false_eq_true, Int.lt_irrefl, implies_true, true_and, and_true, eq_self, and_self, beq_self_eq_true, aw_plan (id := 3) plL28_28_3, plL28_28_3]
        refine PC.step (q18) fun m18 j18 => ?_
        try simp only [Heap.next_push, Heap.next_set, Heap.next_kill, next_bump, next_E0] at j18
        simp (maxSteps := 1000000) (disch := first | exact sd | fail) only [go_sem, Nat.reduceAdd, Nat.reduceSub, Nat.reduceLeDiff, ↓reduceIte, decide_eq_true_eq, if_true, if_false, Bool.false_eq_true, Int.lt_irrefl, implies_true, true_and, and_true, eq_self, and_self, beq_self_eq_true, aw_plan (id := 3) plL28_28_3, plL28_28_3]
        refine PC.step (p100) fun m19 j19 => ?_
        try simp only [Heap.next_push, Heap.next_set, Heap.next_kill, next_bump, next_E0] at j19
        simp (maxSteps := 1000000) (disch := first | exact sd | fail) only [go_sem, Nat.reduceAdd, Nat.reduceSub, Nat.reduceLeDiff, ↓reduceIte, decide_eq_true_eq, if_true, if_false, Bool.false_eq_true, Int.lt_irrefl, implies_true, true_and, and_true, eq_self, and_self, beq_self_eq_true, aw_plan (id := 3) plL28_28_3, plL28_28_3]
        exact .rfl
theorem lawExtAll {H : Heap} {xs : List Value} (hf : ∀ b, H.next ≤ b → H.get b = none) (hg : GoodArgs Try.prog H 8 [28, 28, 26] xs) : ACalls Try.prog 7 xs H fun v _ => v = .bool true := by
  obtain ⟨ps, h1, h2, h3⟩ := args_frz hf (by intro t ht; simp only [List.mem_cons, List.not_mem_nil, or_false] at ht; rcases ht with rfl | rfl | rfl <;> kernel_rfl) hg
  obtain ⟨p0, ps0, rfl, a0, r0⟩ := h3.cons
  obtain ⟨a, rfl, ha⟩ := a0.ext
  obtain ⟨p1, ps1, rfl, a1, r1⟩ := r0.cons
  obtain ⟨b, rfl, hb⟩ := a1.ext
  obtain ⟨p2, ps2, rfl, a2, r2⟩ := r1.cons
  obtain ⟨pn, pl, qn, ql, rfl, k1, k2⟩ := a2.rat
  obtain rfl := r2.nil
  exact (q28 (c := ⟨⟨pn, pl⟩, ⟨qn, ql⟩⟩) ha hb ⟨k1, k2⟩).law h1
end Go.Abs
