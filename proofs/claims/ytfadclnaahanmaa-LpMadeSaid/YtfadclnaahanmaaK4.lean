/- Linear problems: the three kinds of answers. -/
import Derived.Test.YtfadclnaahanmaaKa
set_option linter.unusedVariables false
set_option linter.unusedSimpArgs false
namespace Go.Abs
open Go Go.Proofs
set_option maxRecDepth 100000
set_option maxHeartbeats 4000000
def plK4_189_1 : Plan := ⟨[0, 1, 2], [(3, [], [4, 5, 6, 7, 8, 9, 10, 11, 12, 13, 14, 15, 16, 17, 18, 19, 20, 21, 22]), (23, [], [24, 25, 26, 27, 28, 29, 30, 31, 32]), (33, [29, 27], []), (34, [], [35, 36])]⟩
def plK4_219_5 : Plan := ⟨[0, 1, 2, 3, 4, 5, 6, 7, 8], [(9, [], [10])]⟩
def okS (Y : List RQ) (A : List (List RQ)) : Bool := decide (Y.length = A.length) && !negV Y
theorem okS_iff {Y : List RQ} {A : List (List RQ)} : okS Y A = true ↔ Y.length = A.length ∧ ∀ i, i < Y.length → 0 ≤ ev Y i := by
  unfold okS
  rw [Bool.and_eq_true, decide_eq_true_eq, Bool.not_eq_true', Bool.eq_false_iff, ne_eq, negV_iff]
  exact and_congr_right fun _ => ⟨fun h i hi => Rat.not_lt.1 fun k => h ⟨i, hi, k⟩, fun h ⟨i, hi, k⟩ => absurd (h i hi) (Rat.not_le.2 k)⟩
theorem Rg.y {n : Int} {A : List (List RQ)} {B C : List RQ} (h : okLp n A B C = true) : 0 ≤ n ∧ n ≤ 60 ∧ A.length ≤ 60 ∧ B.length = A.length ∧ (C.length : Int) = n := (okLp_iff.1 h).1
theorem p219x {n : Int} {A : List (List RQ)} {B C y : List RQ} (hy : Rg y) (h : okS y A = false) : PC Try.prog 119 [Lpv n A B C, Vv eQ y] (.tuple ⟨[Vv eQ [], R4 false [] false [], .bool false]⟩) := by
  refine PC.of (.cons pu_Lp (.cons pu_Qs .nil)) (.tuple (.cons pu_Qs (.cons pu_r4 (.cons (.ground rfl) .nil)))) fun N hN => ?_
  have hz : Nz (.tuple ⟨[Vv eQ [], R4 false [] false [], .bool false]⟩) (.tuple ⟨[.slice none 0 0, .agg ⟨[.bool false, .slice none 0 0, .bool false, .slice none 0 0]⟩, .bool false]⟩) := .tuple (.cons .vnil (.cons (.agg (.cons .rfl (.cons .vnil (.cons .rfl (.cons .vnil .nil))))) (.cons .rfl .nil)))
  unfold Lpv
  refine ACalls.of_code T.hm (n := 44) Try.func119 rfl rfl rfl rfl ?_; simp only [List.replicate_succ, List.replicate_zero, List.cons_append, List.nil_append]
  by_cases hl : (y.length : Int) = A.length
  · have hl' : y.length = A.length := by omega
    have q := p231 hy.rw
    unfold okS at h
    rw [decide_eq_true hl', Bool.true_and, Bool.not_eq_false'] at h
    rw [h] at q
    simp (maxSteps := 1000000) (disch := first | exact sd | fail) only [go_sem, Nat.reduceAdd, Nat.reduceSub, Nat.reduceLeDiff, ↓reduceIte, decide_eq_true_eq, if_true, if_false, Bool.false_eq_true, Int.lt_irrefl, implies_true, true_and, and_true, eq_self, and_self, beq_self_eq_true, aw_plan (id := 5) plK4_219_5, plK4_219_5, hl, ne_eq, not_true_eq_false]
    refine PC.step (q) fun m1 j1 => ?_
    try simp only [Heap.next_push, Heap.next_set, Heap.next_kill, next_bump, next_E0] at j1
    simp (maxSteps := 1000000) (disch := first | exact sd | fail) only [go_sem, Nat.reduceAdd, Nat.reduceSub, Nat.reduceLeDiff, ↓reduceIte, decide_eq_true_eq, if_true, if_false, Bool.false_eq_true, Int.lt_irrefl, implies_true, true_and, and_true, eq_self, and_self, beq_self_eq_true, aw_plan (id := 5) plK4_219_5, plK4_219_5]
    exact .nz hz
  · simp (maxSteps := 1000000) (disch := first | exact sd | fail) only [go_sem, Nat.reduceAdd, Nat.reduceSub, Nat.reduceLeDiff, ↓reduceIte, decide_eq_true_eq, if_true, if_false, Bool.false_eq_true, Int.lt_irrefl, implies_true, true_and, and_true, eq_self, and_self, beq_self_eq_true, aw_plan (id := 5) plK4_219_5, plK4_219_5, hl, ne_eq, not_false_eq_true]
    exact .nz hz
theorem p219 {n : Int} {A : List (List RQ)} {B C y : List RQ} (hok : okLp n A B C = true) (hr : ∀ j, Rg (rwi A j)) (hb : Rg B) (hy : Rg y) (h : okS y A = true) : PC Try.prog 119 [Lpv n A B C, Vv eQ y] (.tuple ⟨[Vv eQ (leftV y A n.toNat), Qn (dotV y B), .bool true]⟩) := by
  refine PC.of (.cons pu_Lp (.cons pu_Qs .nil)) (.tuple (.cons pu_Qs (.cons pu_q (.cons (.ground rfl) .nil)))) fun N hN => ?_
  obtain ⟨h1, h2, h3, h4, h5⟩ := Rg.y hok
  have h6 := (okLp_iff.1 hok).2
  have q := p231 hy.rw
  unfold okS at h
  rw [Bool.and_eq_true, decide_eq_true_eq, Bool.not_eq_true'] at h
  rw [h.2] at q
  have hl : (y.length : Int) = A.length := by omega
  have q2 := p94 (n := n) (by omega) hy.rw (fun j => (hr j).rw) (fun j k => hy.prod (hr j) j k) (by omega) (by omega) ⟨h1, by omega, h.1, h6⟩
  have q3 := p85 hy.rw hb.rw (by omega)
  generalize leftV y A n.toNat = L at *
  generalize dotV y B = z at *
  unfold Lpv
  refine ACalls.of_code T.hm (n := 44) Try.func119 rfl rfl rfl rfl ?_; simp only [List.replicate_succ, List.replicate_zero, List.cons_append, List.nil_append]
  simp (maxSteps := 1000000) (disch := first | exact sd | fail) only [go_sem, Nat.reduceAdd, Nat.reduceSub, Nat.reduceLeDiff, ↓reduceIte, decide_eq_true_eq, if_true, if_false, Bool.false_eq_true, Int.lt_irrefl, implies_true, true_and, and_true, eq_self, and_self, beq_self_eq_true, aw_plan (id := 5) plK4_219_5, plK4_219_5, hl, ne_eq, not_true_eq_false]
  refine PC.step (q) fun m1 j1 => ?_
  try simp only [Heap.next_push, Heap.next_set, Heap.next_kill, next_bump, next_E0] at j1
  simp (maxSteps := 1000000) (disch := first | exact sd | fail) only [go_sem, Nat.reduceAdd, Nat.reduceSub, Nat.reduceLeDiff, ↓reduceIte, decide_eq_true_eq, if_true, if_false, Bool.false_eq_true, Int.lt_irrefl, implies_true, true_and, and_true, eq_self, and_self, beq_self_eq_true, aw_plan (id := 5) plK4_219_5, plK4_219_5]
  refine PC.step (q2) fun m2 j2 => ?_
  try simp only [Heap.next_push, Heap.next_set, Heap.next_kill, next_bump, next_E0] at j2
  simp (maxSteps := 1000000) (disch := first | exact sd | fail) only [go_sem, Nat.reduceAdd, Nat.reduceSub, Nat.reduceLeDiff, ↓reduceIte, decide_eq_true_eq, if_true, if_false, Bool.false_eq_true, Int.lt_irrefl, implies_true, true_and, and_true, eq_self, and_self, beq_self_eq_true, aw_plan (id := 5) plK4_219_5, plK4_219_5]
  refine PC.step (q3) fun m3 j3 => ?_
  try simp only [Heap.next_push, Heap.next_set, Heap.next_kill, next_bump, next_E0] at j3
  simp (maxSteps := 1000000) (disch := first | exact sd | fail) only [go_sem, Nat.reduceAdd, Nat.reduceSub, Nat.reduceLeDiff, ↓reduceIte, decide_eq_true_eq, if_true, if_false, Bool.false_eq_true, Int.lt_irrefl, implies_true, true_and, and_true, eq_self, and_self, beq_self_eq_true, aw_plan (id := 5) plK4_219_5, plK4_219_5]
  exact .rfl
def optV (n : Int) (A : List (List RQ)) (B C : List RQ) (v : RQ) (X Y Z : List RQ) : Bool := okS Y A && withinV n A B C X && decide (Z.length = 0) && sameV (leftV Y A n.toNat) C && decide (dotV C X = vq v) && decide (dotV Y B = vq v)
def infV (n : Int) (A : List (List RQ)) (B : List RQ) (v : RQ) (X Y Z : List RQ) : Bool := okS Y A && decide (X.length = 0) && decide (Z.length = 0) && decide (vq v = 0) && sameV (leftV Y A n.toNat) (List.replicate n.toNat eQ.d) && decide (dotV Y B < 0)
def unbV (n : Int) (A : List (List RQ)) (B C : List RQ) (v : RQ) (X Y Z : List RQ) : Bool := withinV n A B C X && decide ((Z.length : Int) = n) && decide (Y.length = 0) && decide (vq v = 0) && belowV A Z (List.replicate A.length eQ.d) && decide (0 < dotV C Z)
theorem p177c {x : Rat} {v : RQ} (hx : lq x ≤ 2 ^ 37) (hv : Rz v) : PC Try.prog 118 [Qn x, .agg ⟨[.bool v.p.neg, Vv eU v.p.l, .bool v.q.neg, Vv eU v.q.l]⟩] (.int .i64 (cq x (vq v))) := by
  have q := p177 (Lr.z (lqn hx)) (Lr.z (lqd hx)) hv.lp hv.lq' (pn := sgn x.num) (qn := sgn x.den) (pn' := v.p.neg) (qn' := v.q.neg)
  rw [dq_q] at q
  exact q
theorem p177d {v : RQ} (hv : Rz v) : PC Try.prog 118 [.agg ⟨[.bool v.p.neg, Vv eU v.p.l, .bool v.q.neg, Vv eU v.q.l]⟩, R4 false [] false []] (.int .i64 (cq (vq v) 0)) := by
  have q := p177v hv Rz.d
  change PC Try.prog 118 [R4 _ _ _ _, R4 false [] false []] (.int .i64 (cq (vq v) (vq eQ.d))) at q
  rw [vq_d] at q
  exact q
theorem p177e {x : Rat} (hx : lq x ≤ 2 ^ 37) : PC Try.prog 118 [Qn x, R4 false [] false []] (.int .i64 (cq x 0)) := by
  have q := p177c hx Rz.d
  rw [vq_d] at q
  exact q
theorem p187 {n k : Int} {A : List (List RQ)} {B C X Y Z : List RQ} {v : RQ} (hok : okLp n A B C = true) (hr : ∀ j, Rg (rwi A j)) (hb : Rg B) (hc : Rg C) (hx : Rg X) (hy : Rg Y) (hz : Rg Z) (hv : Rz v) : PC Try.prog 80 [Lpv n A B C, Anv k v X Y Z] (.bool (optV n A B C v X Y Z)) := by
  refine PC.of (.cons pu_Lp (.cons pu_An .nil)) (.ground rfl) fun N hN => ?_
  obtain ⟨h1, h2, h3, h4, h5⟩ := Rg.y hok
  have q2 := p119 (n := n) (C := C) (by omega) hr hx hb
  unfold optV
  cases hs : okS Y A with
  | false =>
    have q1 := p219x (n := n) (B := B) (C := C) hy hs
    unfold Lpv at q1 ⊢
    unfold Anv
    refine ACalls.of_code T.hm (n := 58) Try.func80 rfl rfl rfl rfl ?_; simp only [List.replicate_succ, List.replicate_zero, List.cons_append, List.nil_append]
    simp (maxSteps := 1000000) (disch := first | exact sd | fail) only [go_sem, Nat.reduceAdd, Nat.reduceSub, Nat.reduceLeDiff, ↓reduceIte, decide_eq_true_eq, if_true, if_false, Bool.false_eq_true, Int.lt_irrefl, implies_true, true_and, and_true, eq_self, and_self, beq_self_eq_true]
    refine PC.step (q1) fun m1 j1 => ?_
    try simp only [Heap.next_push, Heap.next_set, Heap.next_kill, next_bump, next_E0] at j1
    simp (maxSteps := 1000000) (disch := first | exact sd | fail) only [go_sem, Nat.reduceAdd, Nat.reduceSub, Nat.reduceLeDiff, ↓reduceIte, decide_eq_true_eq, if_true, if_false, Bool.false_eq_true, Int.lt_irrefl, implies_true, true_and, and_true, eq_self, and_self, beq_self_eq_true]
    exact .rfl
  | true =>
    have q1 := p219 hok hr hb hy hs
    have hL := (Rg.left (n := n.toNat) (by omega) (by omega) hr hy).1
    have q3 := p220 hL hc.rw
    have hd := hy.dot hb
    cases hw : withinV n A B C X with
    | false =>
      rw [hw] at q2
      unfold Lpv at q1 q2 ⊢
      unfold Anv
      refine ACalls.of_code T.hm (n := 58) Try.func80 rfl rfl rfl rfl ?_; simp only [List.replicate_succ, List.replicate_zero, List.cons_append, List.nil_append]
      simp (maxSteps := 1000000) (disch := first | exact sd | fail) only [go_sem, Nat.reduceAdd, Nat.reduceSub, Nat.reduceLeDiff, ↓reduceIte, decide_eq_true_eq, if_true, if_false, Bool.false_eq_true, Int.lt_irrefl, implies_true, true_and, and_true, eq_self, and_self, beq_self_eq_true]
      refine PC.step (q1) fun m1 j1 => ?_
      try simp only [Heap.next_push, Heap.next_set, Heap.next_kill, next_bump, next_E0] at j1
      simp (maxSteps := 1000000) (disch := first | exact sd | fail) only [go_sem, Nat.reduceAdd, Nat.reduceSub, Nat.reduceLeDiff, ↓reduceIte, decide_eq_true_eq, if_true, if_false, Bool.false_eq_true, Int.lt_irrefl, implies_true, true_and, and_true, eq_self, and_self, beq_self_eq_true]
      refine PC.step (q2) fun m2 j2 => ?_
      try simp only [Heap.next_push, Heap.next_set, Heap.next_kill, next_bump, next_E0] at j2
      simp (maxSteps := 1000000) (disch := first | exact sd | fail) only [go_sem, Nat.reduceAdd, Nat.reduceSub, Nat.reduceLeDiff, ↓reduceIte, decide_eq_true_eq, if_true, if_false, Bool.false_eq_true, Int.lt_irrefl, implies_true, true_and, and_true, eq_self, and_self, beq_self_eq_true]
      exact .rfl
    | true =>
      rw [hw] at q2
      unfold withinV at hw
      rw [Bool.and_eq_true, Bool.and_eq_true, decide_eq_true_eq] at hw
      have hXn := hw.1.2
      have q4 := p85 hc.rw hx.rw (by omega)
      have hd2 := hc.dot hx
      by_cases h7 : (0 : Int) < Z.length
      · unfold Lpv at q1 q2 ⊢
        unfold Anv
        refine ACalls.of_code T.hm (n := 58) Try.func80 rfl rfl rfl rfl ?_; simp only [List.replicate_succ, List.replicate_zero, List.cons_append, List.nil_append]
        simp (maxSteps := 1000000) (disch := first | exact sd | fail) only [go_sem, Nat.reduceAdd, Nat.reduceSub, Nat.reduceLeDiff, ↓reduceIte, decide_eq_true_eq, if_true, if_false, Bool.false_eq_true, Int.lt_irrefl, implies_true, true_and, and_true, eq_self, and_self, beq_self_eq_true]
        refine PC.step (q1) fun m1 j1 => ?_
        try simp only [Heap.next_push, Heap.next_set, Heap.next_kill, next_bump, next_E0] at j1
        simp (maxSteps := 1000000) (disch := first | exact sd | fail) only [go_sem, Nat.reduceAdd, Nat.reduceSub, Nat.reduceLeDiff, ↓reduceIte, decide_eq_true_eq, if_true, if_false, Bool.false_eq_true, Int.lt_irrefl, implies_true, true_and, and_true, eq_self, and_self, beq_self_eq_true]
        refine PC.step (q2) fun m2 j2 => ?_
        try simp only [Heap.next_push, Heap.next_set, Heap.next_kill, next_bump, next_E0] at j2
        simp (maxSteps := 1000000) (disch := first | exact sd | fail) only [go_sem, Nat.reduceAdd, Nat.reduceSub, Nat.reduceLeDiff, ↓reduceIte, decide_eq_true_eq, if_true, if_false, Bool.false_eq_true, Int.lt_irrefl, implies_true, true_and, and_true, eq_self, and_self, beq_self_eq_true, h7]
        rw [decide_eq_false (show ¬ Z.length = 0 by omega), Bool.and_false]
        exact .rfl
      · rw [decide_eq_true (show Z.length = 0 by omega)]
        generalize leftV Y A n.toNat = L at *
        generalize dotV Y B = b at *
        generalize dotV C X = c at *
        have q5 := p177c (x := c) (v := v) (by omega) hv
        have q6 := p177c (x := b) (v := v) (by omega) hv
        have e5 : decide (cq c (vq v) = 0) = decide (c = vq v) := decide_eq_decide.2 cq_eq
        have e6 : decide (cq b (vq v) = 0) = decide (b = vq v) := decide_eq_decide.2 cq_eq
        rw [← e5, ← e6]
        generalize cq c (vq v) = zb at *
        generalize cq b (vq v) = zc at *
        cases hsm : sameV L C with
        | false =>
          rw [hsm] at q3
          unfold Lpv at q1 q2 ⊢
          unfold Anv
          refine ACalls.of_code T.hm (n := 58) Try.func80 rfl rfl rfl rfl ?_; simp only [List.replicate_succ, List.replicate_zero, List.cons_append, List.nil_append]
          simp (maxSteps := 1000000) (disch := first | exact sd | fail) only [go_sem, Nat.reduceAdd, Nat.reduceSub, Nat.reduceLeDiff, ↓reduceIte, decide_eq_true_eq, if_true, if_false, Bool.false_eq_true, Int.lt_irrefl, implies_true, true_and, and_true, eq_self, and_self, beq_self_eq_true]
          refine PC.step (q1) fun m1 j1 => ?_
          try simp only [Heap.next_push, Heap.next_set, Heap.next_kill, next_bump, next_E0] at j1
          simp (maxSteps := 1000000) (disch := first | exact sd | fail) only [go_sem, Nat.reduceAdd, Nat.reduceSub, Nat.reduceLeDiff, ↓reduceIte, decide_eq_true_eq, if_true, if_false, Bool.false_eq_true, Int.lt_irrefl, implies_true, true_and, and_true, eq_self, and_self, beq_self_eq_true]
          refine PC.step (q2) fun m2 j2 => ?_
          try simp only [Heap.next_push, Heap.next_set, Heap.next_kill, next_bump, next_E0] at j2
          simp (maxSteps := 1000000) (disch := first | exact sd | fail) only [go_sem, Nat.reduceAdd, Nat.reduceSub, Nat.reduceLeDiff, ↓reduceIte, decide_eq_true_eq, if_true, if_false, Bool.false_eq_true, Int.lt_irrefl, implies_true, true_and, and_true, eq_self, and_self, beq_self_eq_true, h7]
          refine PC.step (q3) fun m3 j3 => ?_
          try simp only [Heap.next_push, Heap.next_set, Heap.next_kill, next_bump, next_E0] at j3
          simp (maxSteps := 1000000) (disch := first | exact sd | fail) only [go_sem, Nat.reduceAdd, Nat.reduceSub, Nat.reduceLeDiff, ↓reduceIte, decide_eq_true_eq, if_true, if_false, Bool.false_eq_true, Int.lt_irrefl, implies_true, true_and, and_true, eq_self, and_self, beq_self_eq_true]
          exact .rfl
        | true =>
          rw [hsm] at q3
          unfold Lpv at q1 q2 ⊢
          unfold Anv
          by_cases h8 : zb = 0
          · refine ACalls.of_code T.hm (n := 58) Try.func80 rfl rfl rfl rfl ?_; simp only [List.replicate_succ, List.replicate_zero, List.cons_append, List.nil_append]
            simp (maxSteps := 1000000) (disch := first | exact sd | fail) only [go_sem, Nat.reduceAdd, Nat.reduceSub, Nat.reduceLeDiff, ↓reduceIte, decide_eq_true_eq, if_true, if_false, Bool.false_eq_true, Int.lt_irrefl, implies_true, true_and, and_true, eq_self, and_self, beq_self_eq_true]
            refine PC.step (q1) fun m1 j1 => ?_
            try simp only [Heap.next_push, Heap.next_set, Heap.next_kill, next_bump, next_E0] at j1
            simp (maxSteps := 1000000) (disch := first | exact sd | fail) only [go_sem, Nat.reduceAdd, Nat.reduceSub, Nat.reduceLeDiff, ↓reduceIte, decide_eq_true_eq, if_true, if_false, Bool.false_eq_true, Int.lt_irrefl, implies_true, true_and, and_true, eq_self, and_self, beq_self_eq_true]
            refine PC.step (q2) fun m2 j2 => ?_
            try simp only [Heap.next_push, Heap.next_set, Heap.next_kill, next_bump, next_E0] at j2
            simp (maxSteps := 1000000) (disch := first | exact sd | fail) only [go_sem, Nat.reduceAdd, Nat.reduceSub, Nat.reduceLeDiff, ↓reduceIte, decide_eq_true_eq, if_true, if_false, Bool.false_eq_true, Int.lt_irrefl, implies_true, true_and, and_true, eq_self, and_self, beq_self_eq_true, h7]
            refine PC.step (q3) fun m3 j3 => ?_
            try simp only [Heap.next_push, Heap.next_set, Heap.next_kill, next_bump, next_E0] at j3
            simp (maxSteps := 1000000) (disch := first | exact sd | fail) only [go_sem, Nat.reduceAdd, Nat.reduceSub, Nat.reduceLeDiff, ↓reduceIte, decide_eq_true_eq, if_true, if_false, Bool.false_eq_true, Int.lt_irrefl, implies_true, true_and, and_true, eq_self, and_self, beq_self_eq_true]
            refine PC.step (q4) fun m4 j4 => ?_
            try simp only [Heap.next_push, Heap.next_set, Heap.next_kill, next_bump, next_E0] at j4
            simp (maxSteps := 1000000) (disch := first | exact sd | fail) only [go_sem, Nat.reduceAdd, Nat.reduceSub, Nat.reduceLeDiff, ↓reduceIte, decide_eq_true_eq, if_true, if_false, Bool.false_eq_true, Int.lt_irrefl, implies_true, true_and, and_true, eq_self, and_self, beq_self_eq_true]
            refine PC.step (q5) fun m5 j5 => ?_
            try simp only [Heap.next_push, Heap.next_set, Heap.next_kill, next_bump, next_E0] at j5
            simp (maxSteps := 1000000) (disch := first | exact sd | fail) only [go_sem, Nat.reduceAdd, Nat.reduceSub, Nat.reduceLeDiff, ↓reduceIte, decide_eq_true_eq, if_true, if_false, Bool.false_eq_true, Int.lt_irrefl, implies_true, true_and, and_true, eq_self, and_self, beq_self_eq_true, h8]
            refine PC.step (q6) fun m6 j6 => ?_
            try simp only [Heap.next_push, Heap.next_set, Heap.next_kill, next_bump, next_E0] at j6
            simp (maxSteps := 1000000) (disch := first | exact sd | fail) only [go_sem, Nat.reduceAdd, Nat.reduceSub, Nat.reduceLeDiff, ↓reduceIte, decide_eq_true_eq, if_true, if_false, Bool.false_eq_true, Int.lt_irrefl, implies_true, true_and, and_true, eq_self, and_self, beq_self_eq_true]
            simp only [Bool.true_and, decide_true]
            exact .rfl
          · refine ACalls.of_code T.hm (n := 58) Try.func80 rfl rfl rfl rfl ?_; simp only [List.replicate_succ, List.replicate_zero, List.cons_append, List.nil_append]
            simp (maxSteps := 1000000) (disch := first | exact sd | fail) only [go_sem, Nat.reduceAdd, Nat.reduceSub, Nat.reduceLeDiff, ↓reduceIte, decide_eq_true_eq, if_true, if_false, Bool.false_eq_true, Int.lt_irrefl, implies_true, true_and, and_true, eq_self, and_self, beq_self_eq_true]
            refine PC.step (q1) fun m1 j1 => ?_
            try simp only [Heap.next_push, Heap.next_set, Heap.next_kill, next_bump, next_E0] at j1
            simp (maxSteps := 1000000) (disch := first | exact sd | fail) only [go_sem, Nat.reduceAdd, Nat.reduceSub, Nat.reduceLeDiff, ↓reduceIte, decide_eq_true_eq, if_true, if_false, Bool.false_eq_true, Int.lt_irrefl, implies_true, true_and, and_true, eq_self, and_self, beq_self_eq_true]
            refine PC.step (q2) fun m2 j2 => ?_
            try simp only [Heap.next_push, Heap.next_set, Heap.next_kill, next_bump, next_E0] at j2
            simp (maxSteps := 1000000) (disch := first | exact sd | fail) only [go_sem, Nat.reduceAdd, Nat.reduceSub, Nat.reduceLeDiff, ↓reduceIte, decide_eq_true_eq, if_true, if_false, Bool.false_eq_true, Int.lt_irrefl, implies_true, true_and, and_true, eq_self, and_self, beq_self_eq_true, h7]
            refine PC.step (q3) fun m3 j3 => ?_
            try simp only [Heap.next_push, Heap.next_set, Heap.next_kill, next_bump, next_E0] at j3
            simp (maxSteps := 1000000) (disch := first | exact sd | fail) only [go_sem, Nat.reduceAdd, Nat.reduceSub, Nat.reduceLeDiff, ↓reduceIte, decide_eq_true_eq, if_true, if_false, Bool.false_eq_true, Int.lt_irrefl, implies_true, true_and, and_true, eq_self, and_self, beq_self_eq_true]
            refine PC.step (q4) fun m4 j4 => ?_
            try simp only [Heap.next_push, Heap.next_set, Heap.next_kill, next_bump, next_E0] at j4
            simp (maxSteps := 1000000) (disch := first | exact sd | fail) only [go_sem, Nat.reduceAdd, Nat.reduceSub, Nat.reduceLeDiff, ↓reduceIte, decide_eq_true_eq, if_true, if_false, Bool.false_eq_true, Int.lt_irrefl, implies_true, true_and, and_true, eq_self, and_self, beq_self_eq_true]
            refine PC.step (q5) fun m5 j5 => ?_
            try simp only [Heap.next_push, Heap.next_set, Heap.next_kill, next_bump, next_E0] at j5
            simp (maxSteps := 1000000) (disch := first | exact sd | fail) only [go_sem, Nat.reduceAdd, Nat.reduceSub, Nat.reduceLeDiff, ↓reduceIte, decide_eq_true_eq, if_true, if_false, Bool.false_eq_true, Int.lt_irrefl, implies_true, true_and, and_true, eq_self, and_self, beq_self_eq_true, h8]
            exact .rfl
theorem Rw.noughts {n : Nat} (hn : n ≤ 2 ^ 16) : Rw (List.replicate n eQ.d) := ⟨by rw [List.length_replicate]; exact hn, fun a ha => by rw [List.eq_of_mem_replicate ha]; exact Rz.d⟩
theorem p188 {n k : Int} {A : List (List RQ)} {B C X Y Z : List RQ} {v : RQ} (hok : okLp n A B C = true) (hr : ∀ j, Rg (rwi A j)) (hb : Rg B) (hy : Rg Y) (hv : Rz v) : PC Try.prog 81 [Lpv n A B C, Anv k v X Y Z] (.bool (infV n A B v X Y Z)) := by
  refine PC.of (.cons pu_Lp (.cons pu_An .nil)) (.ground rfl) fun N hN => ?_
  obtain ⟨h1, h2, h3, h4, h5⟩ := Rg.y hok
  unfold infV
  cases hs : okS Y A with
  | false =>
    have q1 := p219x (n := n) (B := B) (C := C) hy hs
    unfold Lpv at q1 ⊢
    unfold Anv
    refine ACalls.of_code T.hm (n := 47) Try.func81 rfl rfl rfl rfl ?_; simp only [List.replicate_succ, List.replicate_zero, List.cons_append, List.nil_append]
    simp (maxSteps := 1000000) (disch := first | exact sd | fail) only [go_sem, Nat.reduceAdd, Nat.reduceSub, Nat.reduceLeDiff, ↓reduceIte, decide_eq_true_eq, if_true, if_false, Bool.false_eq_true, Int.lt_irrefl, implies_true, true_and, and_true, eq_self, and_self, beq_self_eq_true]
    refine PC.step (q1) fun m1 j1 => ?_
    try simp only [Heap.next_push, Heap.next_set, Heap.next_kill, next_bump, next_E0] at j1
    simp (maxSteps := 1000000) (disch := first | exact sd | fail) only [go_sem, Nat.reduceAdd, Nat.reduceSub, Nat.reduceLeDiff, ↓reduceIte, decide_eq_true_eq, if_true, if_false, Bool.false_eq_true, Int.lt_irrefl, implies_true, true_and, and_true, eq_self, and_self, beq_self_eq_true]
    exact .rfl
  | true =>
    have q1 := p219 hok hr hb hy hs
    have hL := (Rg.left (n := n.toNat) (by omega) (by omega) hr hy).1
    obtain ⟨m, rfl⟩ := Int.eq_ofNat_of_zero_le h1
    rw [Int.toNat_natCast] at q1 hL ⊢
    have q3 := p220 hL (Rw.noughts (n := m) (by omega))
    have q2 := p221 (n := m) (by omega)
    have hd := hy.dot hb
    have q4 := p177d hv
    have e4 : decide (cq (vq v) 0 = 0) = decide (vq v = 0) := decide_eq_decide.2 cq_eq
    generalize leftV Y A m = L at *
    generalize dotV Y B = b at *
    have q5 := p177e (x := b) (by omega)
    have e5 : decide (cq b 0 < 0) = decide (b < 0) := decide_eq_decide.2 cq_neg
    rw [← e4, ← e5]
    generalize cq (vq v) 0 = za at *
    generalize cq b 0 = zb at *
    generalize List.replicate m eQ.d = W at *
    unfold Lpv at q1 ⊢
    unfold Anv
    by_cases h7 : (X.length : Int) = 0
    rotate_left
    · rw [decide_eq_false (show ¬ X.length = 0 by omega)]
      refine ACalls.of_code T.hm (n := 47) Try.func81 rfl rfl rfl rfl ?_; simp only [List.replicate_succ, List.replicate_zero, List.cons_append, List.nil_append]
      simp (maxSteps := 1000000) (disch := first | exact sd | fail) only [go_sem, Nat.reduceAdd, Nat.reduceSub, Nat.reduceLeDiff, ↓reduceIte, decide_eq_true_eq, if_true, if_false, Bool.false_eq_true, Int.lt_irrefl, implies_true, true_and, and_true, eq_self, and_self, beq_self_eq_true]
      refine PC.step (q1) fun m1 j1 => ?_
      try simp only [Heap.next_push, Heap.next_set, Heap.next_kill, next_bump, next_E0] at j1
      simp (maxSteps := 1000000) (disch := first | exact sd | fail) only [go_sem, Nat.reduceAdd, Nat.reduceSub, Nat.reduceLeDiff, ↓reduceIte, decide_eq_true_eq, if_true, if_false, Bool.false_eq_true, Int.lt_irrefl, implies_true, true_and, and_true, eq_self, and_self, beq_self_eq_true, h7]
      exact .rfl
    rw [decide_eq_true (show X.length = 0 by omega)]
    by_cases h8 : (Z.length : Int) = 0
    rotate_left
    · rw [decide_eq_false (show ¬ Z.length = 0 by omega)]
      refine ACalls.of_code T.hm (n := 47) Try.func81 rfl rfl rfl rfl ?_; simp only [List.replicate_succ, List.replicate_zero, List.cons_append, List.nil_append]
      simp (maxSteps := 1000000) (disch := first | exact sd | fail) only [go_sem, Nat.reduceAdd, Nat.reduceSub, Nat.reduceLeDiff, ↓reduceIte, decide_eq_true_eq, if_true, if_false, Bool.false_eq_true, Int.lt_irrefl, implies_true, true_and, and_true, eq_self, and_self, beq_self_eq_true]
      refine PC.step (q1) fun m1 j1 => ?_
      try simp only [Heap.next_push, Heap.next_set, Heap.next_kill, next_bump, next_E0] at j1
      simp (maxSteps := 1000000) (disch := first | exact sd | fail) only [go_sem, Nat.reduceAdd, Nat.reduceSub, Nat.reduceLeDiff, ↓reduceIte, decide_eq_true_eq, if_true, if_false, Bool.false_eq_true, Int.lt_irrefl, implies_true, true_and, and_true, eq_self, and_self, beq_self_eq_true, h7, h8]
      exact .rfl
    rw [decide_eq_true (show Z.length = 0 by omega)]
    by_cases h9 : za = 0
    rotate_left
    · refine ACalls.of_code T.hm (n := 47) Try.func81 rfl rfl rfl rfl ?_; simp only [List.replicate_succ, List.replicate_zero, List.cons_append, List.nil_append]
      simp (maxSteps := 1000000) (disch := first | exact sd | fail) only [go_sem, Nat.reduceAdd, Nat.reduceSub, Nat.reduceLeDiff, ↓reduceIte, decide_eq_true_eq, if_true, if_false, Bool.false_eq_true, Int.lt_irrefl, implies_true, true_and, and_true, eq_self, and_self, beq_self_eq_true]
      refine PC.step (q1) fun m1 j1 => ?_
      try simp only [Heap.next_push, Heap.next_set, Heap.next_kill, next_bump, next_E0] at j1
      simp (maxSteps := 1000000) (disch := first | exact sd | fail) only [go_sem, Nat.reduceAdd, Nat.reduceSub, Nat.reduceLeDiff, ↓reduceIte, decide_eq_true_eq, if_true, if_false, Bool.false_eq_true, Int.lt_irrefl, implies_true, true_and, and_true, eq_self, and_self, beq_self_eq_true, h7, h8]
      refine ACalls.nz nzQ1 ?_
      refine PC.step (q4) fun m2 j2 => ?_
      try simp only [Heap.next_push, Heap.next_set, Heap.next_kill, next_bump, next_E0] at j2
      simp (maxSteps := 1000000) (disch := first | exact sd | fail) only [go_sem, Nat.reduceAdd, Nat.reduceSub, Nat.reduceLeDiff, ↓reduceIte, decide_eq_true_eq, if_true, if_false, Bool.false_eq_true, Int.lt_irrefl, implies_true, true_and, and_true, eq_self, and_self, beq_self_eq_true, h9]
      exact .rfl
    cases hsm : sameV L W with
    | false =>
      rw [hsm] at q3
      refine ACalls.of_code T.hm (n := 47) Try.func81 rfl rfl rfl rfl ?_; simp only [List.replicate_succ, List.replicate_zero, List.cons_append, List.nil_append]
      simp (maxSteps := 1000000) (disch := first | exact sd | fail) only [go_sem, Nat.reduceAdd, Nat.reduceSub, Nat.reduceLeDiff, ↓reduceIte, decide_eq_true_eq, if_true, if_false, Bool.false_eq_true, Int.lt_irrefl, implies_true, true_and, and_true, eq_self, and_self, beq_self_eq_true]
      refine PC.step (q1) fun m1 j1 => ?_
      try simp only [Heap.next_push, Heap.next_set, Heap.next_kill, next_bump, next_E0] at j1
      simp (maxSteps := 1000000) (disch := first | exact sd | fail) only [go_sem, Nat.reduceAdd, Nat.reduceSub, Nat.reduceLeDiff, ↓reduceIte, decide_eq_true_eq, if_true, if_false, Bool.false_eq_true, Int.lt_irrefl, implies_true, true_and, and_true, eq_self, and_self, beq_self_eq_true, h7, h8]
      refine ACalls.nz nzQ1 ?_
      refine PC.step (q4) fun m2 j2 => ?_
      try simp only [Heap.next_push, Heap.next_set, Heap.next_kill, next_bump, next_E0] at j2
      simp (maxSteps := 1000000) (disch := first | exact sd | fail) only [go_sem, Nat.reduceAdd, Nat.reduceSub, Nat.reduceLeDiff, ↓reduceIte, decide_eq_true_eq, if_true, if_false, Bool.false_eq_true, Int.lt_irrefl, implies_true, true_and, and_true, eq_self, and_self, beq_self_eq_true, h9]
      refine PC.step (q2) fun m3 j3 => ?_
      try simp only [Heap.next_push, Heap.next_set, Heap.next_kill, next_bump, next_E0] at j3
      simp (maxSteps := 1000000) (disch := first | exact sd | fail) only [go_sem, Nat.reduceAdd, Nat.reduceSub, Nat.reduceLeDiff, ↓reduceIte, decide_eq_true_eq, if_true, if_false, Bool.false_eq_true, Int.lt_irrefl, implies_true, true_and, and_true, eq_self, and_self, beq_self_eq_true]
      refine PC.step (q3) fun m4 j4 => ?_
      try simp only [Heap.next_push, Heap.next_set, Heap.next_kill, next_bump, next_E0] at j4
      simp (maxSteps := 1000000) (disch := first | exact sd | fail) only [go_sem, Nat.reduceAdd, Nat.reduceSub, Nat.reduceLeDiff, ↓reduceIte, decide_eq_true_eq, if_true, if_false, Bool.false_eq_true, Int.lt_irrefl, implies_true, true_and, and_true, eq_self, and_self, beq_self_eq_true]
      exact .rfl
    | true =>
      rw [hsm] at q3
      refine ACalls.of_code T.hm (n := 47) Try.func81 rfl rfl rfl rfl ?_; simp only [List.replicate_succ, List.replicate_zero, List.cons_append, List.nil_append]
      simp (maxSteps := 1000000) (disch := first | exact sd | fail) only [go_sem, Nat.reduceAdd, Nat.reduceSub, Nat.reduceLeDiff, ↓reduceIte, decide_eq_true_eq, if_true, if_false, Bool.false_eq_true, Int.lt_irrefl, implies_true, true_and, and_true, eq_self, and_self, beq_self_eq_true]
      refine PC.step (q1) fun m1 j1 => ?_
      try simp only [Heap.next_push, Heap.next_set, Heap.next_kill, next_bump, next_E0] at j1
      simp (maxSteps := 1000000) (disch := first | exact sd | fail) only [go_sem, Nat.reduceAdd, Nat.reduceSub, Nat.reduceLeDiff, ↓reduceIte, decide_eq_true_eq, if_true, if_false, Bool.false_eq_true, Int.lt_irrefl, implies_true, true_and, and_true, eq_self, and_self, beq_self_eq_true, h7, h8]
      refine ACalls.nz nzQ1 ?_
      refine PC.step (q4) fun m2 j2 => ?_
      try simp only [Heap.next_push, Heap.next_set, Heap.next_kill, next_bump, next_E0] at j2
      simp (maxSteps := 1000000) (disch := first | exact sd | fail) only [go_sem, Nat.reduceAdd, Nat.reduceSub, Nat.reduceLeDiff, ↓reduceIte, decide_eq_true_eq, if_true, if_false, Bool.false_eq_true, Int.lt_irrefl, implies_true, true_and, and_true, eq_self, and_self, beq_self_eq_true, h9]
      refine PC.step (q2) fun m3 j3 => ?_
      try simp only [Heap.next_push, Heap.next_set, Heap.next_kill, next_bump, next_E0] at j3
      simp (maxSteps := 1000000) (disch := first | exact sd | fail) only [go_sem, Nat.reduceAdd, Nat.reduceSub, Nat.reduceLeDiff, ↓reduceIte, decide_eq_true_eq, if_true, if_false, Bool.false_eq_true, Int.lt_irrefl, implies_true, true_and, and_true, eq_self, and_self, beq_self_eq_true]
      refine PC.step (q3) fun m4 j4 => ?_
      try simp only [Heap.next_push, Heap.next_set, Heap.next_kill, next_bump, next_E0] at j4
      simp (maxSteps := 1000000) (disch := first | exact sd | fail) only [go_sem, Nat.reduceAdd, Nat.reduceSub, Nat.reduceLeDiff, ↓reduceIte, decide_eq_true_eq, if_true, if_false, Bool.false_eq_true, Int.lt_irrefl, implies_true, true_and, and_true, eq_self, and_self, beq_self_eq_true]
      refine ACalls.nz nzQ1 ?_
      refine PC.step (q5) fun m5 j5 => ?_
      try simp only [Heap.next_push, Heap.next_set, Heap.next_kill, next_bump, next_E0] at j5
      simp (maxSteps := 1000000) (disch := first | exact sd | fail) only [go_sem, Nat.reduceAdd, Nat.reduceSub, Nat.reduceLeDiff, ↓reduceIte, decide_eq_true_eq, if_true, if_false, Bool.false_eq_true, Int.lt_irrefl, implies_true, true_and, and_true, eq_self, and_self, beq_self_eq_true]
      exact .rfl
theorem p189 {n k : Int} {A : List (List RQ)} {B C X Y Z : List RQ} {v : RQ} (hok : okLp n A B C = true) (hr : ∀ j, Rg (rwi A j)) (hb : Rg B) (hc : Rg C) (hx : Rg X) (hz : Rg Z) (hv : Rz v) : PC Try.prog 82 [Lpv n A B C, Anv k v X Y Z] (.bool (unbV n A B C v X Y Z)) := by
  refine PC.of (.cons pu_Lp (.cons pu_An .nil)) (.ground rfl) fun N hN => ?_
  obtain ⟨h1, h2, h3, h4, h5⟩ := Rg.y hok
  have q1 := p119 (n := n) (C := C) (by omega) hr hx hb
  have q2 := p221 (n := A.length) (by omega)
  have q3 := p186 (n := n) (B := B) (C := C) (b := List.replicate A.length eQ.d) (by omega) hr hz (Rw.noughts (by omega)) (by simp)
  have q4 := p177d hv
  have e4 : decide (cq (vq v) 0 = 0) = decide (vq v = 0) := decide_eq_decide.2 cq_eq
  unfold unbV
  rw [← e4]
  generalize cq (vq v) 0 = za at *
  generalize List.replicate A.length eQ.d = W at *
  unfold Lpv at q1 q3 ⊢
  unfold Anv
  cases hw : withinV n A B C X with
  | false =>
    rw [hw] at q1
    refine ACalls.of_code T.hm (n := 58) Try.func82 rfl rfl rfl rfl ?_; simp only [List.replicate_succ, List.replicate_zero, List.cons_append, List.nil_append]
    simp (maxSteps := 1000000) (disch := first | exact sd | fail) only [go_sem, Nat.reduceAdd, Nat.reduceSub, Nat.reduceLeDiff, ↓reduceIte, decide_eq_true_eq, if_true, if_false, Bool.false_eq_true, Int.lt_irrefl, implies_true, true_and, and_true, eq_self, and_self, beq_self_eq_true, aw_plan (id := 1) plK4_189_1, plK4_189_1]
    refine PC.step (q1) fun m1 j1 => ?_
    try simp only [Heap.next_push, Heap.next_set, Heap.next_kill, next_bump, next_E0] at j1
    simp (maxSteps := 1000000) (disch := first | exact sd | fail) only [go_sem, Nat.reduceAdd, Nat.reduceSub, Nat.reduceLeDiff, ↓reduceIte, decide_eq_true_eq, if_true, if_false, Bool.false_eq_true, Int.lt_irrefl, implies_true, true_and, and_true, eq_self, and_self, beq_self_eq_true, aw_plan (id := 1) plK4_189_1, plK4_189_1]
    exact .rfl
  | true =>
    rw [hw] at q1
    by_cases h6 : (Z.length : Int) = n
    rotate_left
    · refine ACalls.of_code T.hm (n := 58) Try.func82 rfl rfl rfl rfl ?_; simp only [List.replicate_succ, List.replicate_zero, List.cons_append, List.nil_append]
      simp (maxSteps := 1000000) (disch := first | exact sd | fail) only [go_sem, Nat.reduceAdd, Nat.reduceSub, Nat.reduceLeDiff, ↓reduceIte, decide_eq_true_eq, if_true, if_false, Bool.false_eq_true, Int.lt_irrefl, implies_true, true_and, and_true, eq_self, and_self, beq_self_eq_true, aw_plan (id := 1) plK4_189_1, plK4_189_1]
      refine PC.step (q1) fun m1 j1 => ?_
      try simp only [Heap.next_push, Heap.next_set, Heap.next_kill, next_bump, next_E0] at j1
      simp (maxSteps := 1000000) (disch := first | exact sd | fail) only [go_sem, Nat.reduceAdd, Nat.reduceSub, Nat.reduceLeDiff, ↓reduceIte, decide_eq_true_eq, if_true, if_false, Bool.false_eq_true, Int.lt_irrefl, implies_true, true_and, and_true, eq_self, and_self, beq_self_eq_true, aw_plan (id := 1) plK4_189_1, plK4_189_1, h6, ne_eq, not_false_eq_true]
      exact .rfl
    rw [decide_eq_true h6]
    by_cases h7 : (0 : Int) < Y.length
    · rw [decide_eq_false (show ¬ Y.length = 0 by omega)]
      refine ACalls.of_code T.hm (n := 58) Try.func82 rfl rfl rfl rfl ?_; simp only [List.replicate_succ, List.replicate_zero, List.cons_append, List.nil_append]
      simp (maxSteps := 1000000) (disch := first | exact sd | fail) only [go_sem, Nat.reduceAdd, Nat.reduceSub, Nat.reduceLeDiff, ↓reduceIte, decide_eq_true_eq, if_true, if_false, Bool.false_eq_true, Int.lt_irrefl, implies_true, true_and, and_true, eq_self, and_self, beq_self_eq_true, aw_plan (id := 1) plK4_189_1, plK4_189_1]
      refine PC.step (q1) fun m1 j1 => ?_
      try simp only [Heap.next_push, Heap.next_set, Heap.next_kill, next_bump, next_E0] at j1
      simp (maxSteps := 1000000) (disch := first | exact sd | fail) only [go_sem, Nat.reduceAdd, Nat.reduceSub, Nat.reduceLeDiff, ↓reduceIte, decide_eq_true_eq, if_true, if_false, Bool.false_eq_true, Int.lt_irrefl, implies_true, true_and, and_true, eq_self, and_self, beq_self_eq_true, aw_plan (id := 1) plK4_189_1, plK4_189_1, h6, h7, ne_eq, not_true_eq_false]
      exact .rfl
    rw [decide_eq_true (show Y.length = 0 by omega)]
    by_cases h8 : za = 0
    rotate_left
    · refine ACalls.of_code T.hm (n := 58) Try.func82 rfl rfl rfl rfl ?_; simp only [List.replicate_succ, List.replicate_zero, List.cons_append, List.nil_append]
      simp (maxSteps := 1000000) (disch := first | exact sd | fail) only [go_sem, Nat.reduceAdd, Nat.reduceSub, Nat.reduceLeDiff, ↓reduceIte, decide_eq_true_eq, if_true, if_false, Bool.false_eq_true, Int.lt_irrefl, implies_true, true_and, and_true, eq_self, and_self, beq_self_eq_true, aw_plan (id := 1) plK4_189_1, plK4_189_1]
      refine PC.step (q1) fun m1 j1 => ?_
      try simp only [Heap.next_push, Heap.next_set, Heap.next_kill, next_bump, next_E0] at j1
      simp (maxSteps := 1000000) (disch := first | exact sd | fail) only [go_sem, Nat.reduceAdd, Nat.reduceSub, Nat.reduceLeDiff, ↓reduceIte, decide_eq_true_eq, if_true, if_false, Bool.false_eq_true, Int.lt_irrefl, implies_true, true_and, and_true, eq_self, and_self, beq_self_eq_true, aw_plan (id := 1) plK4_189_1, plK4_189_1, h6, h7, ne_eq, not_true_eq_false]
      refine ACalls.nz nzQ1 ?_
      refine PC.step (q4) fun m2 j2 => ?_
      try simp only [Heap.next_push, Heap.next_set, Heap.next_kill, next_bump, next_E0] at j2
      simp (maxSteps := 1000000) (disch := first | exact sd | fail) only [go_sem, Nat.reduceAdd, Nat.reduceSub, Nat.reduceLeDiff, ↓reduceIte, decide_eq_true_eq, if_true, if_false, Bool.false_eq_true, Int.lt_irrefl, implies_true, true_and, and_true, eq_self, and_self, beq_self_eq_true, aw_plan (id := 1) plK4_189_1, plK4_189_1, h8, ne_eq, not_false_eq_true]
      exact .rfl
    have q5 := p85 hc.rw hz.rw (by omega)
    have hd := hc.dot hz
    generalize dotV C Z = c at *
    have q6 := p177e (x := c) (by omega)
    have e6 : decide (0 < cq c 0) = decide (0 < c) := decide_eq_decide.2 cq_pos
    rw [← e6]
    generalize cq c 0 = zc at *
    cases hb : belowV A Z W with
    | false =>
      rw [hb] at q3
      refine ACalls.of_code T.hm (n := 58) Try.func82 rfl rfl rfl rfl ?_; simp only [List.replicate_succ, List.replicate_zero, List.cons_append, List.nil_append]
      simp (maxSteps := 1000000) (disch := first | exact sd | fail) only [go_sem, Nat.reduceAdd, Nat.reduceSub, Nat.reduceLeDiff, ↓reduceIte, decide_eq_true_eq, if_true, if_false, Bool.false_eq_true, Int.lt_irrefl, implies_true, true_and, and_true, eq_self, and_self, beq_self_eq_true, aw_plan (id := 1) plK4_189_1, plK4_189_1]
      refine PC.step (q1) fun m1 j1 => ?_
      try simp only [Heap.next_push, Heap.next_set, Heap.next_kill, next_bump, next_E0] at j1
      simp (maxSteps := 1000000) (disch := first | exact sd | fail) only [go_sem, Nat.reduceAdd, Nat.reduceSub, Nat.reduceLeDiff, ↓reduceIte, decide_eq_true_eq, if_true, if_false, Bool.false_eq_true, Int.lt_irrefl, implies_true, true_and, and_true, eq_self, and_self, beq_self_eq_true, aw_plan (id := 1) plK4_189_1, plK4_189_1, h6, h7, ne_eq, not_true_eq_false]
      refine ACalls.nz nzQ1 ?_
      refine PC.step (q4) fun m2 j2 => ?_
      try simp only [Heap.next_push, Heap.next_set, Heap.next_kill, next_bump, next_E0] at j2
      simp (maxSteps := 1000000) (disch := first | exact sd | fail) only [go_sem, Nat.reduceAdd, Nat.reduceSub, Nat.reduceLeDiff, ↓reduceIte, decide_eq_true_eq, if_true, if_false, Bool.false_eq_true, Int.lt_irrefl, implies_true, true_and, and_true, eq_self, and_self, beq_self_eq_true, aw_plan (id := 1) plK4_189_1, plK4_189_1, h8, ne_eq, not_true_eq_false]
      refine PC.step (q2) fun m3 j3 => ?_
      try simp only [Heap.next_push, Heap.next_set, Heap.next_kill, next_bump, next_E0] at j3
      simp (maxSteps := 1000000) (disch := first | exact sd | fail) only [go_sem, Nat.reduceAdd, Nat.reduceSub, Nat.reduceLeDiff, ↓reduceIte, decide_eq_true_eq, if_true, if_false, Bool.false_eq_true, Int.lt_irrefl, implies_true, true_and, and_true, eq_self, and_self, beq_self_eq_true, aw_plan (id := 1) plK4_189_1, plK4_189_1]
      refine PC.step (q3) fun m4 j4 => ?_
      try simp only [Heap.next_push, Heap.next_set, Heap.next_kill, next_bump, next_E0] at j4
      simp (maxSteps := 1000000) (disch := first | exact sd | fail) only [go_sem, Nat.reduceAdd, Nat.reduceSub, Nat.reduceLeDiff, ↓reduceIte, decide_eq_true_eq, if_true, if_false, Bool.false_eq_true, Int.lt_irrefl, implies_true, true_and, and_true, eq_self, and_self, beq_self_eq_true, aw_plan (id := 1) plK4_189_1, plK4_189_1]
      exact .rfl
    | true =>
      rw [hb] at q3
      refine ACalls.of_code T.hm (n := 58) Try.func82 rfl rfl rfl rfl ?_; simp only [List.replicate_succ, List.replicate_zero, List.cons_append, List.nil_append]
      simp (maxSteps := 1000000) (disch := first | exact sd | fail) only [go_sem, Nat.reduceAdd, Nat.reduceSub, Nat.reduceLeDiff, ↓reduceIte, decide_eq_true_eq, if_true, if_false, Bool.false_eq_true, Int.lt_irrefl, implies_true, true_and, and_true, eq_self, and_self, beq_self_eq_true, aw_plan (id := 1) plK4_189_1, plK4_189_1]
      refine PC.step (q1) fun m1 j1 => ?_
      try simp only [Heap.next_push, Heap.next_set, Heap.next_kill, next_bump, next_E0] at j1
      simp (maxSteps := 1000000) (disch := first | exact sd | fail) only [go_sem, Nat.reduceAdd, Nat.reduceSub, Nat.reduceLeDiff, ↓reduceIte, decide_eq_true_eq, if_true, if_false, Bool.false_eq_true, Int.lt_irrefl, implies_true, true_and, and_true, eq_self, and_self, beq_self_eq_true, aw_plan (id := 1) plK4_189_1, plK4_189_1, h6, h7, ne_eq, not_true_eq_false]
      refine ACalls.nz nzQ1 ?_
      refine PC.step (q4) fun m2 j2 => ?_
      try simp only [Heap.next_push, Heap.next_set, Heap.next_kill, next_bump, next_E0] at j2
      simp (maxSteps := 1000000) (disch := first | exact sd | fail) only [go_sem, Nat.reduceAdd, Nat.reduceSub, Nat.reduceLeDiff, ↓reduceIte, decide_eq_true_eq, if_true, if_false, Bool.false_eq_true, Int.lt_irrefl, implies_true, true_and, and_true, eq_self, and_self, beq_self_eq_true, aw_plan (id := 1) plK4_189_1, plK4_189_1, h8, ne_eq, not_true_eq_false]
      refine PC.step (q2) fun m3 j3 => ?_
      try simp only [Heap.next_push, Heap.next_set, Heap.next_kill, next_bump, next_E0] at j3
      simp (maxSteps := 1000000) (disch := first | exact sd | fail) only [go_sem, Nat.reduceAdd, Nat.reduceSub, Nat.reduceLeDiff, ↓reduceIte, decide_eq_true_eq, if_true, if_false, Bool.false_eq_true, Int.lt_irrefl, implies_true, true_and, and_true, eq_self, and_self, beq_self_eq_true, aw_plan (id := 1) plK4_189_1, plK4_189_1]
      refine PC.step (q3) fun m4 j4 => ?_
      try simp only [Heap.next_push, Heap.next_set, Heap.next_kill, next_bump, next_E0] at j4
      simp (maxSteps := 1000000) (disch := first | exact sd | fail) only [go_sem, Nat.reduceAdd, Nat.reduceSub, Nat.reduceLeDiff, ↓reduceIte, decide_eq_true_eq, if_true, if_false, Bool.false_eq_true, Int.lt_irrefl, implies_true, true_and, and_true, eq_self, and_self, beq_self_eq_true, aw_plan (id := 1) plK4_189_1, plK4_189_1]
      refine PC.step (q5) fun m5 j5 => ?_
      try simp only [Heap.next_push, Heap.next_set, Heap.next_kill, next_bump, next_E0] at j5
      simp (maxSteps := 1000000) (disch := first | exact sd | fail) only [go_sem, Nat.reduceAdd, Nat.reduceSub, Nat.reduceLeDiff, ↓reduceIte, decide_eq_true_eq, if_true, if_false, Bool.false_eq_true, Int.lt_irrefl, implies_true, true_and, and_true, eq_self, and_self, beq_self_eq_true, aw_plan (id := 1) plK4_189_1, plK4_189_1]
      refine ACalls.nz nzQ1 ?_
      refine PC.step (q6) fun m6 j6 => ?_
      try simp only [Heap.next_push, Heap.next_set, Heap.next_kill, next_bump, next_E0] at j6
      simp (maxSteps := 1000000) (disch := first | exact sd | fail) only [go_sem, Nat.reduceAdd, Nat.reduceSub, Nat.reduceLeDiff, ↓reduceIte, decide_eq_true_eq, if_true, if_false, Bool.false_eq_true, Int.lt_irrefl, implies_true, true_and, and_true, eq_self, and_self, beq_self_eq_true, aw_plan (id := 1) plK4_189_1, plK4_189_1]
      exact .rfl
end Go.Abs
