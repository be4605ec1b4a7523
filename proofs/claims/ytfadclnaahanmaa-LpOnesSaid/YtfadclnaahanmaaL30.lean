/- LpOnes, on values. -/
import Derived.Test.YtfadclnaahanmaaK8
set_option linter.unusedVariables false
set_option linter.unusedSimpArgs false
namespace Go.Abs
open Go Go.Proofs
set_option maxRecDepth 100000
set_option maxHeartbeats 40000000
def plL30_30_3 : Plan := ⟨[0, 1, 3, 4], [(2, [4, 3], []), (5, [], [6, 7])]⟩
theorem p98c {a b : RQ} (ha : Rz a) (hb : Rz b) : PC Try.prog 45 [.agg ⟨[.bool a.p.neg, Vv eU a.p.l, .bool a.q.neg, Vv eU a.q.l]⟩, .agg ⟨[.bool b.p.neg, Vv eU b.p.l, .bool b.q.neg, Vv eU b.q.l]⟩] (.int .i64 (cq (vq a) (vq b))) := p98v ha hb
theorem p98d {x : Rat} {b : RQ} (hx : lq x ≤ 2 ^ 37) (hb : Rz b) : PC Try.prog 45 [Qn x, .agg ⟨[.bool b.p.neg, Vv eU b.p.l, .bool b.q.neg, Vv eU b.q.l]⟩] (.int .i64 (cq x (vq b))) := by
  have q := p98 (Lr.z (lqn hx)) (Lr.z (lqd hx)) hb.lp hb.lq' (pn := sgn x.num) (qn := sgn x.den) (pn' := b.p.neg) (qn' := b.q.neg)
  rw [dq_q] at q
  exact q
theorem q30 {n k k2 : Int} {A : List (List RQ)} {B C X Y Z X2 Y2 Z2 x : List RQ} {v v2 : RQ} (hA : LimT A) (hB : LimR B) (hC : LimR C) (hv : LimQ v) (hX : LimR X) (hY : LimR Y) (hZ : LimR Z) (hv2 : LimQ v2) (hX2 : LimR X2) (hY2 : LimR Y2) (hZ2 : LimR Z2) (hx : LimR x) :
    PC Try.prog 11 [Lpv n A B C, Anv k v X Y Z, Anv k2 v2 X2 Y2 Z2, Vv eQ x] (.bool true) := by
  refine PC.of (.cons pu_Lp (.cons pu_An (.cons pu_An (.cons pu_Qs .nil)))) (.ground rfl) fun N hN => ?_
  have q1 := p115 (n := n) (k := k) (v := v) hA.1 (rows_len fun r hr => (hA.2 r hr).1) (six_len hB hC hX hY hZ)
  have q2 := p115 (n := n) (k := k2) (v := v2) hA.1 (rows_len fun r hr => (hA.2 r hr).1) (six_len hB hC hX2 hY2 hZ2)
  have q3 := p115x (n := n) hA hB hC hx
  unfold Lpv Anv at q1 q2
  unfold Lpv Anv
  refine ACalls.of_code T.hm (n := 78) Try.func11 rfl rfl rfl rfl ?_; simp only [List.replicate_succ, List.replicate_zero, List.cons_append, List.nil_append]
  simp (maxSteps := 1000000) (disch := first | exact sd | fail) only [go_sem, Nat.reduceAdd, Nat.reduceSub, Nat.reduceLeDiff, ↓reduceIte, decide_eq_true_eq, if_true, if_false, Bool.false_eq_true, Int.lt_irrefl, implies_true, true_and, and_true, eq_self, and_self, beq_self_eq_true, aw_plan (id := 3) plL30_30_3, plL30_30_3]
  refine PK.step q1 ?_
  rintro _ m1 ⟨t1, rfl, d1⟩ j1
  try simp only [Heap.next_push, Heap.next_set, Heap.next_kill, next_bump, next_E0] at j1
  cases t1 with
  | true =>
    simp (maxSteps := 1000000) (disch := first | exact sd | fail) only [go_sem, Nat.reduceAdd, Nat.reduceSub, Nat.reduceLeDiff, ↓reduceIte, decide_eq_true_eq, if_true, if_false, Bool.false_eq_true, Int.lt_irrefl, implies_true, true_and, and_true, eq_self, and_self, beq_self_eq_true, aw_plan (id := 3) plL30_30_3, plL30_30_3]
    refine PC.step (p116) fun m2 j2 => ?_
    try simp only [Heap.next_push, Heap.next_set, Heap.next_kill, next_bump, next_E0] at j2
    simp (maxSteps := 1000000) (disch := first | exact sd | fail) only [go_sem, Nat.reduceAdd, Nat.reduceSub, Nat.reduceLeDiff, ↓reduceIte, decide_eq_true_eq, if_true, if_false, Bool.false_eq_true, Int.lt_irrefl, implies_true, true_and, and_true, eq_self, and_self, beq_self_eq_true, aw_plan (id := 3) plL30_30_3, plL30_30_3]
    exact .rfl
  | false =>
  simp (maxSteps := 1000000) (disch := first | exact sd | fail) only [go_sem, Nat.reduceAdd, Nat.reduceSub, Nat.reduceLeDiff, ↓reduceIte, decide_eq_true_eq, if_true, if_false, Bool.false_eq_true, Int.lt_irrefl, implies_true, true_and, and_true, eq_self, and_self, beq_self_eq_true, aw_plan (id := 3) plL30_30_3, plL30_30_3]
  refine PK.step q2 ?_
  rintro _ m2 ⟨t2, rfl, d2⟩ j2
  try simp only [Heap.next_push, Heap.next_set, Heap.next_kill, next_bump, next_E0] at j2
  cases t2 with
  | true =>
    simp (maxSteps := 1000000) (disch := first | exact sd | fail) only [go_sem, Nat.reduceAdd, Nat.reduceSub, Nat.reduceLeDiff, ↓reduceIte, decide_eq_true_eq, if_true, if_false, Bool.false_eq_true, Int.lt_irrefl, implies_true, true_and, and_true, eq_self, and_self, beq_self_eq_true, aw_plan (id := 3) plL30_30_3, plL30_30_3]
    refine PC.step (p116) fun m3 j3 => ?_
    try simp only [Heap.next_push, Heap.next_set, Heap.next_kill, next_bump, next_E0] at j3
    simp (maxSteps := 1000000) (disch := first | exact sd | fail) only [go_sem, Nat.reduceAdd, Nat.reduceSub, Nat.reduceLeDiff, ↓reduceIte, decide_eq_true_eq, if_true, if_false, Bool.false_eq_true, Int.lt_irrefl, implies_true, true_and, and_true, eq_self, and_self, beq_self_eq_true, aw_plan (id := 3) plL30_30_3, plL30_30_3]
    exact .rfl
  | false =>
  simp (maxSteps := 1000000) (disch := first | exact sd | fail) only [go_sem, Nat.reduceAdd, Nat.reduceSub, Nat.reduceLeDiff, ↓reduceIte, decide_eq_true_eq, if_true, if_false, Bool.false_eq_true, Int.lt_irrefl, implies_true, true_and, and_true, eq_self, and_self, beq_self_eq_true, aw_plan (id := 3) plL30_30_3, plL30_30_3]
  refine ACalls.nz nzAns ?_
  refine PK.step q3 ?_
  rintro _ m3 ⟨t3, rfl, d3⟩ j3
  try simp only [Heap.next_push, Heap.next_set, Heap.next_kill, next_bump, next_E0] at j3
  cases t3 with
  | true =>
    simp (maxSteps := 1000000) (disch := first | exact sd | fail) only [go_sem, Nat.reduceAdd, Nat.reduceSub, Nat.reduceLeDiff, ↓reduceIte, decide_eq_true_eq, if_true, if_false, Bool.false_eq_true, Int.lt_irrefl, implies_true, true_and, and_true, eq_self, and_self, beq_self_eq_true, aw_plan (id := 3) plL30_30_3, plL30_30_3]
    refine PC.step (p116) fun m4 j4 => ?_
    try simp only [Heap.next_push, Heap.next_set, Heap.next_kill, next_bump, next_E0] at j4
    simp (maxSteps := 1000000) (disch := first | exact sd | fail) only [go_sem, Nat.reduceAdd, Nat.reduceSub, Nat.reduceLeDiff, ↓reduceIte, decide_eq_true_eq, if_true, if_false, Bool.false_eq_true, Int.lt_irrefl, implies_true, true_and, and_true, eq_self, and_self, beq_self_eq_true, aw_plan (id := 3) plL30_30_3, plL30_30_3]
    exact .rfl
  | false =>
  obtain ⟨g1, e1⟩ := d1 rfl
  obtain ⟨_, e2⟩ := d2 rfl
  obtain ⟨_, e3⟩ := d3 rfl
  obtain ⟨rB, rC, rX, rY, rZ, rv⟩ := six_rg e1 hB hC hX hY hZ hv
  obtain ⟨_, _, rX2, rY2, rZ2, rv2⟩ := six_rg e2 hB hC hX2 hY2 hZ2 hv2
  obtain ⟨_, _, rx, _, _, _⟩ := six_rg e3 hB hC hx .nil .nil .d
  have rA := hA.rg g1
  have u1 := p121 (n := n) (k := k) (v := v) g1.1 rA rB rC rX rY rZ rv
  have u2 := p121 (n := n) (k := k2) (v := v2) g1.1 rA rB rC rX2 rY2 rZ2 rv2
  have u3 := p119 (n := n) (C := C) g1.1 rA rx rB
  have u4 := p98c rv rv2
  have one (h1 : holdsV n A B C k v X Y Z = true) (h2 : holdsV n A B C k2 v2 X2 Y2 Z2 = true) : k = k2 ∧ cq (vq v) (vq v2) = 0 := ⟨(holds_one h1 h2).1, cq_eq.2 (holds_one h1 h2).2⟩
  have two (h1 : holdsV n A B C k v X Y Z = true) (h2 : withinV n A B C x = true) : ¬ k = 2 ∧ (k = 1 → ¬ 0 < cq (dotV C x) (vq v)) := ⟨(holds_within h1 h2).1, fun e h => absurd (cq_pos.1 h) (Rat.not_lt.2 ((holds_within h1 h2).2 e))⟩
  have three (h2 : withinV n A B C x = true) : C.length = x.length := by
    obtain ⟨w1, w2, w3⟩ := within_iff.1 h2
    have := (okLp_iff.1 w1).1
    omega
  have u5 (h2 : withinV n A B C x = true) := p86 rC.rw rx.rw (three h2)
  have hd := rC.dot rx
  have u6 := p98d (x := dotV C x) (by omega) rv
  generalize holdsV n A B C k v X Y Z = f at *
  generalize holdsV n A B C k2 v2 X2 Y2 Z2 = g at *
  generalize withinV n A B C x = w at *
  generalize dotV C x = cx at *
  generalize cq (vq v) (vq v2) = s at *
  generalize cq cx (vq v) = t at *
  unfold Lpv Anv at u1 u2
  unfold Lpv at u3
  clear q1 q2 q3 d1 d2 d3 rA hA
  simp (maxSteps := 1000000) (disch := first | exact sd | fail) only [go_sem, Nat.reduceAdd, Nat.reduceSub, Nat.reduceLeDiff, ↓reduceIte, decide_eq_true_eq, if_true, if_false, Bool.false_eq_true, Int.lt_irrefl, implies_true, true_and, and_true, eq_self, and_self, beq_self_eq_true, aw_plan (id := 3) plL30_30_3, plL30_30_3]
  refine PC.step (u1) fun m4 j4 => ?_
  try simp only [Heap.next_push, Heap.next_set, Heap.next_kill, next_bump, next_E0] at j4
  simp (maxSteps := 1000000) (disch := first | exact sd | fail) only [go_sem, Nat.reduceAdd, Nat.reduceSub, Nat.reduceLeDiff, ↓reduceIte, decide_eq_true_eq, if_true, if_false, Bool.false_eq_true, Int.lt_irrefl, implies_true, true_and, and_true, eq_self, and_self, beq_self_eq_true, aw_plan (id := 3) plL30_30_3, plL30_30_3]
  refine PC.step (u2) fun m5 j5 => ?_
  try simp only [Heap.next_push, Heap.next_set, Heap.next_kill, next_bump, next_E0] at j5
  cases f with
  | false =>
    simp (maxSteps := 1000000) (disch := first | exact sd | fail) only [go_sem, Nat.reduceAdd, Nat.reduceSub, Nat.reduceLeDiff, ↓reduceIte, decide_eq_true_eq, if_true, if_false, Bool.false_eq_true, Int.lt_irrefl, implies_true, true_and, and_true, eq_self, and_self, beq_self_eq_true, aw_plan (id := 3) plL30_30_3, plL30_30_3]
    refine PC.step (p116) fun m6 j6 => ?_
    try simp only [Heap.next_push, Heap.next_set, Heap.next_kill, next_bump, next_E0] at j6
    simp (maxSteps := 1000000) (disch := first | exact sd | fail) only [go_sem, Nat.reduceAdd, Nat.reduceSub, Nat.reduceLeDiff, ↓reduceIte, decide_eq_true_eq, if_true, if_false, Bool.false_eq_true, Int.lt_irrefl, implies_true, true_and, and_true, eq_self, and_self, beq_self_eq_true, aw_plan (id := 3) plL30_30_3, plL30_30_3]
    exact .rfl
  | true =>
  cases g with
  | false =>
    cases w with
    | false =>
      simp (maxSteps := 1000000) (disch := first | exact sd | fail) only [go_sem, Nat.reduceAdd, Nat.reduceSub, Nat.reduceLeDiff, ↓reduceIte, decide_eq_true_eq, if_true, if_false, Bool.false_eq_true, Int.lt_irrefl, implies_true, true_and, and_true, eq_self, and_self, beq_self_eq_true, aw_plan (id := 3) plL30_30_3, plL30_30_3]
      refine PC.step (u3) fun m6 j6 => ?_
      try simp only [Heap.next_push, Heap.next_set, Heap.next_kill, next_bump, next_E0] at j6
      simp (maxSteps := 1000000) (disch := first | exact sd | fail) only [go_sem, Nat.reduceAdd, Nat.reduceSub, Nat.reduceLeDiff, ↓reduceIte, decide_eq_true_eq, if_true, if_false, Bool.false_eq_true, Int.lt_irrefl, implies_true, true_and, and_true, eq_self, and_self, beq_self_eq_true, aw_plan (id := 3) plL30_30_3, plL30_30_3]
      refine PC.step (p116) fun m7 j7 => ?_
      try simp only [Heap.next_push, Heap.next_set, Heap.next_kill, next_bump, next_E0] at j7
      simp (maxSteps := 1000000) (disch := first | exact sd | fail) only [go_sem, Nat.reduceAdd, Nat.reduceSub, Nat.reduceLeDiff, ↓reduceIte, decide_eq_true_eq, if_true, if_false, Bool.false_eq_true, Int.lt_irrefl, implies_true, true_and, and_true, eq_self, and_self, beq_self_eq_true, aw_plan (id := 3) plL30_30_3, plL30_30_3]
      exact .rfl
    | true =>
      obtain ⟨w1, w2⟩ := two rfl rfl
      simp (maxSteps := 1000000) (disch := first | exact sd | fail) only [go_sem, Nat.reduceAdd, Nat.reduceSub, Nat.reduceLeDiff, ↓reduceIte, decide_eq_true_eq, if_true, if_false, Bool.false_eq_true, Int.lt_irrefl, implies_true, true_and, and_true, eq_self, and_self, beq_self_eq_true, aw_plan (id := 3) plL30_30_3, plL30_30_3]
      refine PC.step (u3) fun m6 j6 => ?_
      try simp only [Heap.next_push, Heap.next_set, Heap.next_kill, next_bump, next_E0] at j6
      simp (maxSteps := 1000000) (disch := first | exact sd | fail) only [go_sem, Nat.reduceAdd, Nat.reduceSub, Nat.reduceLeDiff, ↓reduceIte, decide_eq_true_eq, if_true, if_false, Bool.false_eq_true, Int.lt_irrefl, implies_true, true_and, and_true, eq_self, and_self, beq_self_eq_true, aw_plan (id := 3) plL30_30_3, plL30_30_3]
      refine PC.step (u5 rfl) fun m7 j7 => ?_
      try simp only [Heap.next_push, Heap.next_set, Heap.next_kill, next_bump, next_E0] at j7
      by_cases k1 : k = 1
      · simp (maxSteps := 1000000) (disch := first | exact sd | fail) only [go_sem, Nat.reduceAdd, Nat.reduceSub, Nat.reduceLeDiff, ↓reduceIte, decide_eq_true_eq, if_true, if_false, Bool.false_eq_true, Int.lt_irrefl, implies_true, true_and, and_true, eq_self, and_self, beq_self_eq_true, aw_plan (id := 3) plL30_30_3, plL30_30_3, w1, k1, show ¬ (1 : Int) = 2 by decide]
        refine PC.step (u6) fun m8 j8 => ?_
        try simp only [Heap.next_push, Heap.next_set, Heap.next_kill, next_bump, next_E0] at j8
        simp (maxSteps := 1000000) (disch := first | exact sd | fail) only [go_sem, Nat.reduceAdd, Nat.reduceSub, Nat.reduceLeDiff, ↓reduceIte, decide_eq_true_eq, if_true, if_false, Bool.false_eq_true, Int.lt_irrefl, implies_true, true_and, and_true, eq_self, and_self, beq_self_eq_true, aw_plan (id := 3) plL30_30_3, plL30_30_3, w2 k1]
        refine PC.step (p116) fun m9 j9 => ?_
        try simp only [Heap.next_push, Heap.next_set, Heap.next_kill, next_bump, next_E0] at j9
        simp (maxSteps := 1000000) (disch := first | exact sd | fail) only [go_sem, Nat.reduceAdd, Nat.reduceSub, Nat.reduceLeDiff, ↓reduceIte, decide_eq_true_eq, if_true, if_false, Bool.false_eq_true, Int.lt_irrefl, implies_true, true_and, and_true, eq_self, and_self, beq_self_eq_true, aw_plan (id := 3) plL30_30_3, plL30_30_3]
        exact .rfl
      · simp (maxSteps := 1000000) (disch := first | exact sd | fail) only [go_sem, Nat.reduceAdd, Nat.reduceSub, Nat.reduceLeDiff, ↓reduceIte, decide_eq_true_eq, if_true, if_false, Bool.false_eq_true, Int.lt_irrefl, implies_true, true_and, and_true, eq_self, and_self, beq_self_eq_true, aw_plan (id := 3) plL30_30_3, plL30_30_3, w1, k1]
        refine PC.step (p116) fun m8 j8 => ?_
        try simp only [Heap.next_push, Heap.next_set, Heap.next_kill, next_bump, next_E0] at j8
        simp (maxSteps := 1000000) (disch := first | exact sd | fail) only [go_sem, Nat.reduceAdd, Nat.reduceSub, Nat.reduceLeDiff, ↓reduceIte, decide_eq_true_eq, if_true, if_false, Bool.false_eq_true, Int.lt_irrefl, implies_true, true_and, and_true, eq_self, and_self, beq_self_eq_true, aw_plan (id := 3) plL30_30_3, plL30_30_3]
        exact .rfl
  | true =>
    obtain ⟨o1, o2⟩ := one rfl rfl
    cases w with
    | false =>
      simp (maxSteps := 1000000) (disch := first | exact sd | fail) only [go_sem, Nat.reduceAdd, Nat.reduceSub, Nat.reduceLeDiff, ↓reduceIte, decide_eq_true_eq, if_true, if_false, Bool.false_eq_true, Int.lt_irrefl, implies_true, true_and, and_true, eq_self, and_self, beq_self_eq_true, aw_plan (id := 3) plL30_30_3, plL30_30_3, ← o1, ne_eq, not_true_eq_false]
      refine PC.step (u4) fun m6 j6 => ?_
      try simp only [Heap.next_push, Heap.next_set, Heap.next_kill, next_bump, next_E0] at j6
      simp (maxSteps := 1000000) (disch := first | exact sd | fail) only [go_sem, Nat.reduceAdd, Nat.reduceSub, Nat.reduceLeDiff, ↓reduceIte, decide_eq_true_eq, if_true, if_false, Bool.false_eq_true, Int.lt_irrefl, implies_true, true_and, and_true, eq_self, and_self, beq_self_eq_true, aw_plan (id := 3) plL30_30_3, plL30_30_3, o2, ne_eq, not_true_eq_false]
      refine PC.step (u3) fun m7 j7 => ?_
      try simp only [Heap.next_push, Heap.next_set, Heap.next_kill, next_bump, next_E0] at j7
      simp (maxSteps := 1000000) (disch := first | exact sd | fail) only [go_sem, Nat.reduceAdd, Nat.reduceSub, Nat.reduceLeDiff, ↓reduceIte, decide_eq_true_eq, if_true, if_false, Bool.false_eq_true, Int.lt_irrefl, implies_true, true_and, and_true, eq_self, and_self, beq_self_eq_true, aw_plan (id := 3) plL30_30_3, plL30_30_3]
      refine PC.step (p116) fun m8 j8 => ?_
      try simp only [Heap.next_push, Heap.next_set, Heap.next_kill, next_bump, next_E0] at j8
      simp (maxSteps := 1000000) (disch := first | exact sd | fail) only [go_sem, Nat.reduceAdd, Nat.reduceSub, Nat.reduceLeDiff, ↓reduceIte, decide_eq_true_eq, if_true, if_false, Bool.false_eq_true, Int.lt_irrefl, implies_true, true_and, and_true, eq_self, and_self, beq_self_eq_true, aw_plan (id := 3) plL30_30_3, plL30_30_3]
      exact .rfl
    | true =>
      obtain ⟨w1, w2⟩ := two rfl rfl
      simp (maxSteps := 1000000) (disch := first | exact sd | fail) only [go_sem, Nat.reduceAdd, Nat.reduceSub, Nat.reduceLeDiff, ↓reduceIte, decide_eq_true_eq, if_true, if_false, Bool.false_eq_true, Int.lt_irrefl, implies_true, true_and, and_true, eq_self, and_self, beq_self_eq_true, aw_plan (id := 3) plL30_30_3, plL30_30_3, ← o1, ne_eq, not_true_eq_false]
      refine PC.step (u4) fun m6 j6 => ?_
      try simp only [Heap.next_push, Heap.next_set, Heap.next_kill, next_bump, next_E0] at j6
      simp (maxSteps := 1000000) (disch := first | exact sd | fail) only [go_sem, Nat.reduceAdd, Nat.reduceSub, Nat.reduceLeDiff, ↓reduceIte, decide_eq_true_eq, if_true, if_false, Bool.false_eq_true, Int.lt_irrefl, implies_true, true_and, and_true, eq_self, and_self, beq_self_eq_true, aw_plan (id := 3) plL30_30_3, plL30_30_3, o2, ne_eq, not_true_eq_false]
      refine PC.step (u3) fun m7 j7 => ?_
      try simp only [Heap.next_push, Heap.next_set, Heap.next_kill, next_bump, next_E0] at j7
      simp (maxSteps := 1000000) (disch := first | exact sd | fail) only [go_sem, Nat.reduceAdd, Nat.reduceSub, Nat.reduceLeDiff, ↓reduceIte, decide_eq_true_eq, if_true, if_false, Bool.false_eq_true, Int.lt_irrefl, implies_true, true_and, and_true, eq_self, and_self, beq_self_eq_true, aw_plan (id := 3) plL30_30_3, plL30_30_3]
      refine PC.step (u5 rfl) fun m8 j8 => ?_
      try simp only [Heap.next_push, Heap.next_set, Heap.next_kill, next_bump, next_E0] at j8
      by_cases k1 : k = 1
      · simp (maxSteps := 1000000) (disch := first | exact sd | fail) only [go_sem, Nat.reduceAdd, Nat.reduceSub, Nat.reduceLeDiff, ↓reduceIte, decide_eq_true_eq, if_true, if_false, Bool.false_eq_true, Int.lt_irrefl, implies_true, true_and, and_true, eq_self, and_self, beq_self_eq_true, aw_plan (id := 3) plL30_30_3, plL30_30_3, w1, k1, show ¬ (1 : Int) = 2 by decide]
        refine PC.step (u6) fun m9 j9 => ?_
        try simp only [Heap.next_push, Heap.next_set, Heap.next_kill, next_bump, next_E0] at j9
        simp (maxSteps := 1000000) (disch := first | exact sd | fail) only [go_sem, Nat.reduceAdd, Nat.reduceSub, Nat.reduceLeDiff, ↓reduceIte, decide_eq_true_eq, if_true, if_false, Bool.false_eq_true, Int.lt_irrefl, implies_true, true_and, and_true, eq_self, and_self, beq_self_eq_true, aw_plan (id := 3) plL30_30_3, plL30_30_3, w2 k1]
        refine PC.step (p116) fun m10 j10 => ?_
        try simp only [Heap.next_push, Heap.next_set, Heap.next_kill, next_bump, next_E0] at j10
        simp (maxSteps := 1000000) (disch := first | exact sd | fail) only [go_sem, Nat.reduceAdd, Nat.reduceSub, Nat.reduceLeDiff, ↓reduceIte, decide_eq_true_eq, if_true, if_false, Bool.false_eq_true, Int.lt_irrefl, implies_true, true_and, and_true, eq_self, and_self, beq_self_eq_true, aw_plan (id := 3) plL30_30_3, plL30_30_3]
        exact .rfl
      · simp (maxSteps := 1000000) (disch := first | exact sd | fail) only [go_sem, Nat.reduceAdd, Nat.reduceSub, Nat.reduceLeDiff, ↓reduceIte, decide_eq_true_eq, if_true, if_false, Bool.false_eq_true, Int.lt_irrefl, implies_true, true_and, and_true, eq_self, and_self, beq_self_eq_true, aw_plan (id := 3) plL30_30_3, plL30_30_3, w1, k1]
        refine PC.step (p116) fun m9 j9 => ?_
        try simp only [Heap.next_push, Heap.next_set, Heap.next_kill, next_bump, next_E0] at j9
        simp (maxSteps := 1000000) (disch := first | exact sd | fail) only [go_sem, Nat.reduceAdd, Nat.reduceSub, Nat.reduceLeDiff, ↓reduceIte, decide_eq_true_eq, if_true, if_false, Bool.false_eq_true, Int.lt_irrefl, implies_true, true_and, and_true, eq_self, and_self, beq_self_eq_true, aw_plan (id := 3) plL30_30_3, plL30_30_3]
        exact .rfl
theorem lawLpOnes {H : Heap} {xs : List Value} (hf : ∀ b, H.next ≤ b → H.get b = none) (hg : GoodArgs Try.prog H 8 [62, 65, 65, 45] xs) : ACalls Try.prog 11 xs H fun v _ => v = .bool true := by
  obtain ⟨ps, h1, h2, h3⟩ := args_frz hf (by intro t ht; simp only [List.mem_cons, List.not_mem_nil, or_false] at ht; rcases ht with rfl | rfl | rfl | rfl <;> kernel_rfl) hg
  obtain ⟨p0, ps0, rfl, a0, r0⟩ := h3.cons
  obtain ⟨n, A, B, C, rfl, hA, hB, hC⟩ := a0.lp
  obtain ⟨p1, ps1, rfl, a1, r1⟩ := r0.cons
  obtain ⟨k, v, X, Y, Z, rfl, hv, hX, hY, hZ⟩ := a1.ans
  obtain ⟨p2, ps2, rfl, a2, r2⟩ := r1.cons
  obtain ⟨k2, v2, X2, Y2, Z2, rfl, hv2, hX2, hY2, hZ2⟩ := a2.ans
  obtain ⟨p3, ps3, rfl, a3, r3⟩ := r2.cons
  obtain ⟨x, rfl, hx⟩ := a3.rats
  obtain rfl := r3.nil
  exact (q30 hA hB hC hv hX hY hZ hv2 hX2 hY2 hZ2 hx).law h1
end Go.Abs
