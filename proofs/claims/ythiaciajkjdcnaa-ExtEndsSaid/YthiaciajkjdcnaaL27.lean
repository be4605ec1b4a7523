/- ExtEnds, on values. -/
import Derived.Test.YthiaciajkjdcnaaW7
set_option linter.unusedVariables false
set_option linter.unusedSimpArgs false
namespace Go.Abs
open Go Go.Proofs
set_option maxRecDepth 100000
set_option maxHeartbeats 40000000
def plL27_27_4 : Plan := ⟨[0, 1], [(2, [], [3, 4, 5, 6]), (7, [], [8, 9, 10, 11, 12, 14]), (13, [14], []), (15, [], [16, 17, 18, 19, 21]), (20, [21], []), (22, [], [23, 24, 25, 26, 28, 29, 32, 33]), (27, [33, 32, 29, 28], []), (30, [33, 32], []), (31, [33, 32], []), (34, [], [35, 36, 37]), (38, [], [39, 40])]⟩
theorem nzX {e : Int} {vs : List Value} {ps : List Value} (h : Nzs ps vs) : Nzs (.agg ⟨[.int .i64 e, .bool false, Vv eU [], .bool false, Vv eU []]⟩ :: ps) (.agg ⟨[.int .i64 e, .bool false, .slice none 0 0, .bool false, .slice none 0 0]⟩ :: vs) :=
  .cons (.agg (.cons .rfl (.cons .rfl (.cons .vnil (.cons .rfl (.cons .vnil .nil)))))) h
theorem q27 {a b : RX} {c : RQ} (ha : LimX a) (hb : LimX b) (hc : LimQ c) : PC Try.prog 6 [.agg ⟨eX.enc a⟩, .agg ⟨eX.enc b⟩, .agg ⟨eQ.enc c⟩] (.bool true) := by
  refine PC.of (.cons pu_x5 (.cons pu_x5 (.cons pu_r4 .nil))) (.ground rfl) fun N hN => ?_
  refine ACalls.of_code T.hm (n := 58) Try.func6 rfl rfl rfl rfl ?_; simp only [List.replicate_succ, List.replicate_zero, List.cons_append, List.nil_append]
  simp (maxSteps := 1000000) (disch := first | exact sd | fail) only [go_sem, Nat.reduceAdd, Nat.reduceSub, Nat.reduceLeDiff, ↓reduceIte, decide_eq_true_eq, if_true, if_false, Bool.false_eq_true, Int.lt_irrefl, implies_true, true_and, and_true, eq_self, and_self, beq_self_eq_true, aw_plan (id := 4) plL27_27_4, plL27_27_4]
  refine s99 (ls := [a, b]) (by simp (maxSteps := 1000000) (disch := first | exact sd | fail) only [go_sem, Nat.reduceAdd, Nat.reduceSub, Nat.reduceLeDiff, ↓reduceIte, decide_eq_true_eq, if_true, if_false, Bool.false_eq_true, Int.lt_irrefl, implies_true, true_and, and_true, eq_self, and_self, beq_self_eq_true, aw_plan (id := 4) plL27_27_4, plL27_27_4]; rfl) (by simp (maxSteps := 1000000) (disch := first | exact sd | fail) only [go_sem, Nat.reduceAdd, Nat.reduceSub, Nat.reduceLeDiff, ↓reduceIte, decide_eq_true_eq, if_true, if_false, Bool.false_eq_true, Int.lt_irrefl, implies_true, true_and, and_true, eq_self, and_self, beq_self_eq_true, aw_plan (id := 4) plL27_27_4, plL27_27_4]; omega) rfl rfl (by simp) ?_
  rw [List.any_cons, List.any_cons, List.any_nil, Bool.or_false]
  cases ga : gx a with
  | true =>
    simp (maxSteps := 1000000) (disch := first | exact sd | fail) only [go_sem, Nat.reduceAdd, Nat.reduceSub, Nat.reduceLeDiff, ↓reduceIte, decide_eq_true_eq, if_true, if_false, Bool.false_eq_true, Int.lt_irrefl, implies_true, true_and, and_true, eq_self, and_self, beq_self_eq_true, aw_plan (id := 4) plL27_27_4, plL27_27_4, Bool.true_or]
    refine PC.step (p100) fun m1 j1 => ?_
    try simp only [Heap.next_push, Heap.next_set, Heap.next_kill, next_bump, next_E0] at j1
    simp (maxSteps := 1000000) (disch := first | exact sd | fail) only [go_sem, Nat.reduceAdd, Nat.reduceSub, Nat.reduceLeDiff, ↓reduceIte, decide_eq_true_eq, if_true, if_false, Bool.false_eq_true, Int.lt_irrefl, implies_true, true_and, and_true, eq_self, and_self, beq_self_eq_true, aw_plan (id := 4) plL27_27_4, plL27_27_4]
    exact .rfl
  | false =>
    cases gb : gx b with
    | true =>
      simp (maxSteps := 1000000) (disch := first | exact sd | fail) only [go_sem, Nat.reduceAdd, Nat.reduceSub, Nat.reduceLeDiff, ↓reduceIte, decide_eq_true_eq, if_true, if_false, Bool.false_eq_true, Int.lt_irrefl, implies_true, true_and, and_true, eq_self, and_self, beq_self_eq_true, aw_plan (id := 4) plL27_27_4, plL27_27_4, Bool.or_true]
      refine PC.step (p100) fun m1 j1 => ?_
      try simp only [Heap.next_push, Heap.next_set, Heap.next_kill, next_bump, next_E0] at j1
      simp (maxSteps := 1000000) (disch := first | exact sd | fail) only [go_sem, Nat.reduceAdd, Nat.reduceSub, Nat.reduceLeDiff, ↓reduceIte, decide_eq_true_eq, if_true, if_false, Bool.false_eq_true, Int.lt_irrefl, implies_true, true_and, and_true, eq_self, and_self, beq_self_eq_true, aw_plan (id := 4) plL27_27_4, plL27_27_4]
      exact .rfl
    | false =>
      have ra := gx_rx ha ga
      have rb := gx_rx hb gb
      simp (maxSteps := 1000000) (disch := first | exact sd | fail) only [go_sem, Nat.reduceAdd, Nat.reduceSub, Nat.reduceLeDiff, ↓reduceIte, decide_eq_true_eq, if_true, if_false, Bool.false_eq_true, Int.lt_irrefl, implies_true, true_and, and_true, eq_self, and_self, beq_self_eq_true, aw_plan (id := 4) plL27_27_4, plL27_27_4, Bool.or_false]
      refine s69 (pn := c.p.neg) (pl := c.p.l) (qn := c.q.neg) (ql := c.q.l) (by simp (maxSteps := 1000000) (disch := first | exact sd | fail) only [go_sem, Nat.reduceAdd, Nat.reduceSub, Nat.reduceLeDiff, ↓reduceIte, decide_eq_true_eq, if_true, if_false, Bool.false_eq_true, Int.lt_irrefl, implies_true, true_and, and_true, eq_self, and_self, beq_self_eq_true, aw_plan (id := 4) plL27_27_4, plL27_27_4]) (by simp (maxSteps := 1000000) (disch := first | exact sd | fail) only [go_sem, Nat.reduceAdd, Nat.reduceSub, Nat.reduceLeDiff, ↓reduceIte, decide_eq_true_eq, if_true, if_false, Bool.false_eq_true, Int.lt_irrefl, implies_true, true_and, and_true, eq_self, and_self, beq_self_eq_true, aw_plan (id := 4) plL27_27_4, plL27_27_4]; omega) ?_
      cases gc : gq c with
      | true =>
        simp (maxSteps := 1000000) (disch := first | exact sd | fail) only [go_sem, Nat.reduceAdd, Nat.reduceSub, Nat.reduceLeDiff, ↓reduceIte, decide_eq_true_eq, if_true, if_false, Bool.false_eq_true, Int.lt_irrefl, implies_true, true_and, and_true, eq_self, and_self, beq_self_eq_true, aw_plan (id := 4) plL27_27_4, plL27_27_4]
        refine PC.step (p100) fun m1 j1 => ?_
        try simp only [Heap.next_push, Heap.next_set, Heap.next_kill, next_bump, next_E0] at j1
        simp (maxSteps := 1000000) (disch := first | exact sd | fail) only [go_sem, Nat.reduceAdd, Nat.reduceSub, Nat.reduceLeDiff, ↓reduceIte, decide_eq_true_eq, if_true, if_false, Bool.false_eq_true, Int.lt_irrefl, implies_true, true_and, and_true, eq_self, and_self, beq_self_eq_true, aw_plan (id := 4) plL27_27_4, plL27_27_4]
        exact .rfl
      | false =>
        obtain ⟨rc, lc⟩ := gq_rzw hc gc
        have xa := lx_vx ra (by decide)
        have xb := lx_vx rb (by decide)
        have l3 := lx_ad (vx a) (vq c)
        have l4 := lx_ad (vx b) (vq c)
        have ra' := ra.mono (show 6 ≤ 2 ^ 30 by decide)
        have rb' := rb.mono (show 6 ≤ 2 ^ 30 by decide)
        have rlo : Rx (2 ^ 30) (xv .lo) := Rx.xv (by show lq 0 ≤ _; rw [lq_zero]; decide)
        have rhi : Rx (2 ^ 30) (xv .hi) := Rx.xv (by show lq 0 ≤ _; rw [lq_zero]; decide)
        have q1 := p102v rlo ra'
        have q2 := p102v ra' rhi
        have q3 := p106v rlo rc
        have q4 := p105 (a := XR.lo) (by show lq 0 ≤ _; rw [lq_zero]; decide) rfl
        have q5 := p106v rhi rc
        have q6 := p105 (a := XR.hi) (by show lq 0 ≤ _; rw [lq_zero]; decide) rfl
        have q7 := p106v ra' rc
        have q8 := p106v rb' rc
        have q9 := p102v (a := xv (adX (vx a) (vq c))) (b := xv (adX (vx b) (vq c))) (Rx.xv (by omega)) (Rx.xv (by omega))
        have q10 := p102v ra' rb'
        rw [vx_xv] at q1 q2 q3 q5
        rw [vx_xv, vx_xv, cx_add] at q9
        have c1 := cx_lo (vx a)
        have c2 := cx_hi (vx a)
        generalize cx .lo (vx a) = i1 at *
        generalize cx (vx a) .hi = i2 at *
        generalize cx (vx a) (vx b) = i3 at *
        generalize adX (vx a) (vq c) = d at *
        generalize adX (vx b) (vq c) = e at *
        clear ra rb xa xb l3 l4 ra' rb' rlo rhi lc ha hb hc ga gb
        simp (maxSteps := 1000000) (disch := first | exact sd | fail) only [go_sem, Nat.reduceAdd, Nat.reduceSub, Nat.reduceLeDiff, ↓reduceIte, decide_eq_true_eq, if_true, if_false, Bool.false_eq_true, Int.lt_irrefl, implies_true, true_and, and_true, eq_self, and_self, beq_self_eq_true, aw_plan (id := 4) plL27_27_4, plL27_27_4]
        refine ACalls.nz (nzX .refl) ?_
        refine PC.step (q1) fun m1 j1 => ?_
        try simp only [Heap.next_push, Heap.next_set, Heap.next_kill, next_bump, next_E0] at j1
        simp (maxSteps := 1000000) (disch := first | exact sd | fail) only [go_sem, Nat.reduceAdd, Nat.reduceSub, Nat.reduceLeDiff, ↓reduceIte, decide_eq_true_eq, if_true, if_false, Bool.false_eq_true, Int.lt_irrefl, implies_true, true_and, and_true, eq_self, and_self, beq_self_eq_true, aw_plan (id := 4) plL27_27_4, plL27_27_4, c1]
        refine ACalls.nz (.cons .rfl (nzX .refl)) ?_
        refine PC.step (q2) fun m2 j2 => ?_
        try simp only [Heap.next_push, Heap.next_set, Heap.next_kill, next_bump, next_E0] at j2
        simp (maxSteps := 1000000) (disch := first | exact sd | fail) only [go_sem, Nat.reduceAdd, Nat.reduceSub, Nat.reduceLeDiff, ↓reduceIte, decide_eq_true_eq, if_true, if_false, Bool.false_eq_true, Int.lt_irrefl, implies_true, true_and, and_true, eq_self, and_self, beq_self_eq_true, aw_plan (id := 4) plL27_27_4, plL27_27_4, c2]
        refine ACalls.nz (nzX .refl) ?_
        refine PC.step (q3) fun m3 j3 => ?_
        try simp only [Heap.next_push, Heap.next_set, Heap.next_kill, next_bump, next_E0] at j3
        simp (maxSteps := 1000000) (disch := first | exact sd | fail) only [go_sem, Nat.reduceAdd, Nat.reduceSub, Nat.reduceLeDiff, ↓reduceIte, decide_eq_true_eq, if_true, if_false, Bool.false_eq_true, Int.lt_irrefl, implies_true, true_and, and_true, eq_self, and_self, beq_self_eq_true, aw_plan (id := 4) plL27_27_4, plL27_27_4]
        refine ACalls.nz (.cons .rfl (nzX .refl)) ?_
        refine PC.step (q4) fun m4 j4 => ?_
        try simp only [Heap.next_push, Heap.next_set, Heap.next_kill, next_bump, next_E0] at j4
        simp (maxSteps := 1000000) (disch := first | exact sd | fail) only [go_sem, Nat.reduceAdd, Nat.reduceSub, Nat.reduceLeDiff, ↓reduceIte, decide_eq_true_eq, if_true, if_false, Bool.false_eq_true, Int.lt_irrefl, implies_true, true_and, and_true, eq_self, and_self, beq_self_eq_true, aw_plan (id := 4) plL27_27_4, plL27_27_4]
        refine ACalls.nz (nzX .refl) ?_
        refine PC.step (q5) fun m5 j5 => ?_
        try simp only [Heap.next_push, Heap.next_set, Heap.next_kill, next_bump, next_E0] at j5
        simp (maxSteps := 1000000) (disch := first | exact sd | fail) only [go_sem, Nat.reduceAdd, Nat.reduceSub, Nat.reduceLeDiff, ↓reduceIte, decide_eq_true_eq, if_true, if_false, Bool.false_eq_true, Int.lt_irrefl, implies_true, true_and, and_true, eq_self, and_self, beq_self_eq_true, aw_plan (id := 4) plL27_27_4, plL27_27_4]
        refine ACalls.nz (.cons .rfl (nzX .refl)) ?_
        refine PC.step (q6) fun m6 j6 => ?_
        try simp only [Heap.next_push, Heap.next_set, Heap.next_kill, next_bump, next_E0] at j6
        simp (maxSteps := 1000000) (disch := first | exact sd | fail) only [go_sem, Nat.reduceAdd, Nat.reduceSub, Nat.reduceLeDiff, ↓reduceIte, decide_eq_true_eq, if_true, if_false, Bool.false_eq_true, Int.lt_irrefl, implies_true, true_and, and_true, eq_self, and_self, beq_self_eq_true, aw_plan (id := 4) plL27_27_4, plL27_27_4]
        refine PC.step (q7) fun m7 j7 => ?_
        try simp only [Heap.next_push, Heap.next_set, Heap.next_kill, next_bump, next_E0] at j7
        simp (maxSteps := 1000000) (disch := first | exact sd | fail) only [go_sem, Nat.reduceAdd, Nat.reduceSub, Nat.reduceLeDiff, ↓reduceIte, decide_eq_true_eq, if_true, if_false, Bool.false_eq_true, Int.lt_irrefl, implies_true, true_and, and_true, eq_self, and_self, beq_self_eq_true, aw_plan (id := 4) plL27_27_4, plL27_27_4]
        refine PC.step (q8) fun m8 j8 => ?_
        try simp only [Heap.next_push, Heap.next_set, Heap.next_kill, next_bump, next_E0] at j8
        simp (maxSteps := 1000000) (disch := first | exact sd | fail) only [go_sem, Nat.reduceAdd, Nat.reduceSub, Nat.reduceLeDiff, ↓reduceIte, decide_eq_true_eq, if_true, if_false, Bool.false_eq_true, Int.lt_irrefl, implies_true, true_and, and_true, eq_self, and_self, beq_self_eq_true, aw_plan (id := 4) plL27_27_4, plL27_27_4]
        refine PC.step (q9) fun m9 j9 => ?_
        try simp only [Heap.next_push, Heap.next_set, Heap.next_kill, next_bump, next_E0] at j9
        simp (maxSteps := 1000000) (disch := first | exact sd | fail) only [go_sem, Nat.reduceAdd, Nat.reduceSub, Nat.reduceLeDiff, ↓reduceIte, decide_eq_true_eq, if_true, if_false, Bool.false_eq_true, Int.lt_irrefl, implies_true, true_and, and_true, eq_self, and_self, beq_self_eq_true, aw_plan (id := 4) plL27_27_4, plL27_27_4]
        refine PC.step (q10) fun m10 j10 => ?_
        try simp only [Heap.next_push, Heap.next_set, Heap.next_kill, next_bump, next_E0] at j10
        simp (maxSteps := 1000000) (disch := first | exact sd | fail) only [go_sem, Nat.reduceAdd, Nat.reduceSub, Nat.reduceLeDiff, ↓reduceIte, decide_eq_true_eq, if_true, if_false, Bool.false_eq_true, Int.lt_irrefl, implies_true, true_and, and_true, eq_self, and_self, beq_self_eq_true, aw_plan (id := 4) plL27_27_4, plL27_27_4]
        refine PC.step (p100) fun m11 j11 => ?_
        try simp only [Heap.next_push, Heap.next_set, Heap.next_kill, next_bump, next_E0] at j11
        simp (maxSteps := 1000000) (disch := first | exact sd | fail) only [go_sem, Nat.reduceAdd, Nat.reduceSub, Nat.reduceLeDiff, ↓reduceIte, decide_eq_true_eq, if_true, if_false, Bool.false_eq_true, Int.lt_irrefl, implies_true, true_and, and_true, eq_self, and_self, beq_self_eq_true, aw_plan (id := 4) plL27_27_4, plL27_27_4]
        exact .rfl
theorem lawExtEnds {H : Heap} {xs : List Value} (hf : ∀ b, H.next ≤ b → H.get b = none) (hg : GoodArgs Try.prog H 8 [28, 28, 26] xs) : ACalls Try.prog 6 xs H fun v _ => v = .bool true := by
  obtain ⟨ps, h1, h2, h3⟩ := args_frz hf (by intro t ht; simp only [List.mem_cons, List.not_mem_nil, or_false] at ht; rcases ht with rfl | rfl | rfl <;> kernel_rfl) hg
  obtain ⟨p0, ps0, rfl, a0, r0⟩ := h3.cons
  obtain ⟨a, rfl, ha⟩ := a0.ext
  obtain ⟨p1, ps1, rfl, a1, r1⟩ := r0.cons
  obtain ⟨b, rfl, hb⟩ := a1.ext
  obtain ⟨p2, ps2, rfl, a2, r2⟩ := r1.cons
  obtain ⟨pn, pl, qn, ql, rfl, k1, k2⟩ := a2.rat
  obtain rfl := r2.nil
  exact (q27 (c := ⟨⟨pn, pl⟩, ⟨qn, ql⟩⟩) ha hb ⟨k1, k2⟩).law h1
end Go.Abs
