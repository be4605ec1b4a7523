/- Linear problems: the document's Holds. -/
import Derived.Test.YtfadclnaahanmaaGreatK8
set_option linter.unusedVariables false
set_option linter.unusedSimpArgs false
namespace Go.Abs
open Go Go.Proofs
set_option maxRecDepth 100000
set_option maxHeartbeats 8000000
theorem p287 {pn qn : Bool} {pl ql : List Int} (h1 : Lr pl) (h2 : Lr ql) : PC Tryz.prog 21 [.agg ⟨[.bool pn, Vv eU pl, .bool qn, Vv eU ql]⟩] (.int .i64 (cq (dq pn pl qn ql) 0)) := by
  refine PC.of (.cons pu_r4 .nil) (.ground rfl) fun N hN => ?_
  have q := p98 (pn := pn) (qn := qn) (pn' := false) (qn' := false) h1 h2 Rz.d.lp Rz.d.lq'
  have e : dq false eQ.d.p.l false eQ.d.q.l = 0 := vq_d
  rw [e] at q
  change PC Tryz.prog 20 [R4 _ _ _ _, R4 false [] false []] _ at q
  generalize cq (dq pn pl qn ql) 0 = z at *
  unfold R4 at q
  refine ACalls.of_code T.hm (n := 5) Tryz.func21 rfl rfl rfl rfl ?_; simp only [List.replicate_succ, List.replicate_zero, List.cons_append, List.nil_append]
  simp (maxSteps := 1000000) (disch := first | exact sd | fail) only [go_sem, Nat.reduceAdd, Nat.reduceSub, Nat.reduceLeDiff, ↓reduceIte, decide_eq_true_eq, if_true, if_false, Bool.false_eq_true, Int.lt_irrefl, implies_true, true_and, and_true, eq_self, and_self, beq_self_eq_true]
  refine ACalls.nz nzQ1 ?_
  unfold R4
  refine PC.step (q) fun m1 j1 => ?_
  try simp only [Heap.next_push, Heap.next_set, Heap.next_kill, next_bump, next_E0] at j1
  simp (maxSteps := 1000000) (disch := first | exact sd | fail) only [go_sem, Nat.reduceAdd, Nat.reduceSub, Nat.reduceLeDiff, ↓reduceIte, decide_eq_true_eq, if_true, if_false, Bool.false_eq_true, Int.lt_irrefl, implies_true, true_and, and_true, eq_self, and_self, beq_self_eq_true]
  exact .rfl
theorem p287v {a : RQ} (ha : Rz a) : PC Tryz.prog 21 [.agg ⟨[.bool a.p.neg, Vv eU a.p.l, .bool a.q.neg, Vv eU a.q.l]⟩] (.int .i64 (cq (vq a) 0)) := p287 ha.lp ha.lq'
theorem p287q {x : Rat} (hx : lq x ≤ 2 ^ 37) : PC Tryz.prog 21 [.agg ⟨[.bool (sgn x.num), Vv eU (lmb x.num), .bool (sgn x.den), Vv eU (lmb x.den)]⟩] (.int .i64 (cq x 0)) := by
  have := p287 (pn := sgn x.num) (qn := sgn x.den) (Lr.z (lqn hx)) (Lr.z (lqd hx))
  rw [dq_q] at this
  exact this
theorem okS_len {Y : List RQ} {A : List (List RQ)} (h : ¬ Y.length = A.length) : okS Y A = false := by
  unfold okS; rw [decide_eq_false h, Bool.false_and]
theorem okS_neg {Y : List RQ} {A : List (List RQ)} {i : Nat} (hi : i < Y.length) (h : ev Y i < 0) : okS Y A = false := by
  rw [Bool.eq_false_iff]; exact fun k => absurd ((okS_iff.1 k).2 i hi) (Rat.not_le.2 h)
def dualV (n : Int) (A : List (List RQ)) (y : List RQ) : Value := if okS y A = true then .tuple ⟨[Vv eQ (leftV y A n.toNat), .bool true]⟩ else .tuple ⟨[Vv eQ [], .bool false]⟩
theorem nz_dual : Nz (.tuple ⟨[Vv eQ [], .bool false]⟩) (.tuple ⟨[.slice none 0 0, .bool false]⟩) := .tuple (.cons .vnil (.cons .rfl .nil))
theorem p286 {n : Int} {A : List (List RQ)} {B C y : List RQ} (hok : okLp n A B C = true) (hr : ∀ j, Rg (rwi A j)) (hy : Rg y) : PC Tryz.prog 16 [Lpv n A B C, Vv eQ y] (dualV n A y) := by
  refine PC.of (.cons pu_Lp (.cons pu_Qs .nil)) (by unfold dualV; split <;> exact .tuple (.cons pu_Qs (.cons (.ground rfl) .nil))) fun N hN => ?_
  obtain ⟨h1, h2, h3, h4, h5⟩ := Rg.y hok
  have h6 := (okLp_iff.1 hok).2
  have hn := hy.1
  have q2 (h : y.length = A.length) := p95 (n := n) (by omega) hy.rw (fun j => (hr j).rw) (fun j k => hy.prod (hr j) j k) (by omega) (by omega) ⟨h1, by omega, h, h6⟩
  unfold dualV
  generalize leftV y A n.toNat = L at *
  unfold Lpv
  refine ACalls.of_code T.hm (n := 37) Tryz.func16 rfl rfl rfl rfl ?_; simp only [List.replicate_succ, List.replicate_zero, List.cons_append, List.nil_append]
  by_cases hl : (y.length : Int) = A.length
  rotate_left
  · simp (maxSteps := 1000000) (disch := first | exact sd | fail) only [go_sem, Nat.reduceAdd, Nat.reduceSub, Nat.reduceLeDiff, ↓reduceIte, decide_eq_true_eq, if_true, if_false, Bool.false_eq_true, Int.lt_irrefl, implies_true, true_and, and_true, eq_self, and_self, beq_self_eq_true, hl, ne_eq, not_false_eq_true]
    rw [okS_len (by omega)]
    exact .nz nz_dual
  simp (maxSteps := 1000000) (disch := first | exact sd | fail) only [go_sem, Nat.reduceAdd, Nat.reduceSub, Nat.reduceLeDiff, ↓reduceIte, decide_eq_true_eq, if_true, if_false, Bool.false_eq_true, Int.lt_irrefl, implies_true, true_and, and_true, eq_self, and_self, beq_self_eq_true, hl, ne_eq, not_true_eq_false]
  refine aw_loopJ (σ := Nat) (fun k J => [J 0, Vv eQ y, .pointer (some ⟨N, 0, none⟩), J 3, .slice none 0 0, .bool false, .int .i64 k, J 7, J 8, J 9, J 10, J 11, J 12, J 13, J 14, J 15, J 16, J 17, J 18, J 19, J 20, J 21, J 22, J 23, J 24, J 25, J 26, J 27, J 28, J 29, J 30, J 31, J 32, J 33, J 34, J 35, J 36, J 37, J 38]) (fun m k H1 => m = y.length - k ∧ k ≤ y.length ∧ H1.get N = some (.row true 25 [.int .i64 n, Vv eR A, Vv eQ B, Vv eQ C]) ∧ ∀ i, i < k → 0 ≤ ev y i) y.length 0 rfl ⟨rfl, Nat.zero_le _, by simp (maxSteps := 1000000) (disch := first | exact sd | fail) only [go_sem, Nat.reduceAdd, Nat.reduceSub, Nat.reduceLeDiff, ↓reduceIte, decide_eq_true_eq, if_true, if_false, Bool.false_eq_true, Int.lt_irrefl, implies_true, true_and, and_true, eq_self, and_self, beq_self_eq_true], fun i hi => by omega⟩ ?_
  rintro m k J H1 ⟨rfl, hk, gN, hall⟩
  by_cases h7 : (k : Int) < y.length
  · have q1 := p287v (hy.rw.getD k)
    change PC Tryz.prog 21 _ (.int .i64 (cq (ev y k) 0)) at q1
    by_cases h8 : cq (ev y k) 0 < 0
    · simp (maxSteps := 1000000) (disch := first | exact sd | fail) only [go_sem, Nat.reduceAdd, Nat.reduceSub, Nat.reduceLeDiff, ↓reduceIte, decide_eq_true_eq, if_true, if_false, Bool.false_eq_true, Int.lt_irrefl, implies_true, true_and, and_true, eq_self, and_self, beq_self_eq_true, gN, h7, Int.toNat_natCast]
      refine (PC.peek q1 rfl .refl ?_)
      simp (maxSteps := 1000000) (disch := first | exact sd | fail) only [go_sem, Nat.reduceAdd, Nat.reduceSub, Nat.reduceLeDiff, ↓reduceIte, decide_eq_true_eq, if_true, if_false, Bool.false_eq_true, Int.lt_irrefl, implies_true, true_and, and_true, eq_self, and_self, beq_self_eq_true, h8]
      rw [okS_neg (by omega) (cq_neg.1 h8)]
      exact .nz nz_dual
    · simp (maxSteps := 1000000) (disch := first | exact sd | fail) only [go_sem, Nat.reduceAdd, Nat.reduceSub, Nat.reduceLeDiff, ↓reduceIte, decide_eq_true_eq, if_true, if_false, Bool.false_eq_true, Int.lt_irrefl, implies_true, true_and, and_true, eq_self, and_self, beq_self_eq_true, gN, h7, Int.toNat_natCast]
      refine (PC.peek q1 rfl .refl ?_)
      simp (maxSteps := 1000000) (disch := first | exact sd | fail) only [go_sem, Nat.reduceAdd, Nat.reduceSub, Nat.reduceLeDiff, ↓reduceIte, decide_eq_true_eq, if_true, if_false, Bool.false_eq_true, Int.lt_irrefl, implies_true, true_and, and_true, eq_self, and_self, beq_self_eq_true, h8]
      refine IJ_intro (k := y.length - (k + 1)) (by omega) (k + 1) rfl ⟨rfl, by omega, gN, fun i hi => ?_⟩
      rcases Nat.lt_or_ge i k with h9 | h9
      · exact hall i h9
      · have : i = k := by omega
        subst this; exact Rat.not_lt.1 fun h => h8 (cq_neg.2 h)
  · rw [okS_iff.2 ⟨by omega, fun i hi => hall i (by omega)⟩, if_pos rfl]
    have q3 := q2 (by omega)
    simp (maxSteps := 1000000) (disch := first | exact sd | fail) only [go_sem, Nat.reduceAdd, Nat.reduceSub, Nat.reduceLeDiff, ↓reduceIte, decide_eq_true_eq, if_true, if_false, Bool.false_eq_true, Int.lt_irrefl, implies_true, true_and, and_true, eq_self, and_self, beq_self_eq_true, gN, h7]
    refine PC.step (q3) fun m1 j1 => ?_
    try simp only [Heap.next_push, Heap.next_set, Heap.next_kill, next_bump, next_E0] at j1
    simp (maxSteps := 1000000) (disch := first | exact sd | fail) only [go_sem, Nat.reduceAdd, Nat.reduceSub, Nat.reduceLeDiff, ↓reduceIte, decide_eq_true_eq, if_true, if_false, Bool.false_eq_true, Int.lt_irrefl, implies_true, true_and, and_true, eq_self, and_self, beq_self_eq_true]
    exact .rfl
theorem sameV_no {a b : List RQ} {i : Nat} (hi : i < a.length) (h : ev a i ≠ ev b i) : sameV a b = false := by
  rw [Bool.eq_false_iff]; exact fun k => h ((same_ev k).2 i hi)
theorem p285 {n k : Int} {A : List (List RQ)} {B C X Y Z : List RQ} {v : RQ} (hA : A.length ≤ 200) (hr : ∀ j, Rg (rwi A j)) (hb : Rg B) (hc : Rg C) (hx : Rg X) (hy : Rg Y) (hz : Rg Z) (hv : Rz v) : PC Tryz.prog 7 [Lpv n A B C, Anv k v X Y Z] (.bool (holdsV n A B C k v X Y Z)) := by
  refine PC.of (.cons pu_Lp (.cons pu_An .nil)) (.ground rfl) fun N hN => ?_
  have q1 := p118 (n := n) (A := A) (B := B) (C := C) (by omega)
  unfold holdsV
  cases hok : okLp n A B C with
  | false =>
    rw [hok] at q1
    unfold Lpv at q1 ⊢
    unfold Anv
    refine ACalls.of_code T.hm (n := 192) Tryz.func7 rfl rfl rfl rfl ?_; simp only [List.replicate_succ, List.replicate_zero, List.cons_append, List.nil_append]
    simp (maxSteps := 1000000) (disch := first | exact sd | fail) only [go_sem, Nat.reduceAdd, Nat.reduceSub, Nat.reduceLeDiff, ↓reduceIte, decide_eq_true_eq, if_true, if_false, Bool.false_eq_true, Int.lt_irrefl, implies_true, true_and, and_true, eq_self, and_self, beq_self_eq_true]
    refine PC.step (q1) fun m1 j1 => ?_
    try simp only [Heap.next_push, Heap.next_set, Heap.next_kill, next_bump, next_E0] at j1
    simp (maxSteps := 1000000) (disch := first | exact sd | fail) only [go_sem, Nat.reduceAdd, Nat.reduceSub, Nat.reduceLeDiff, ↓reduceIte, decide_eq_true_eq, if_true, if_false, Bool.false_eq_true, Int.lt_irrefl, implies_true, true_and, and_true, eq_self, and_self, beq_self_eq_true]
    exact .rfl
  | true =>
  rw [hok] at q1
  obtain ⟨h1, h2, h3, h4, h5⟩ := Rg.y hok
  have h6 := (okLp_iff.1 hok).2
  have q2 := p286 hok hr hy
  have q3 := p120 (n := n) (C := C) hA hr hx hb
  have hlen : (leftV Y A n.toNat).length = n.toNat := lefP_len
  have hL := (Rg.left (n := n.toNat) (by omega) (by omega) hr hy).1
  have hd := hy.dot hb
  have qv := p287v hv
  unfold dualV at q2
  unfold Lpv at q1 q2 q3 ⊢
  unfold Anv
  rw [Bool.true_and]
  by_cases k1 : k = 1
  · subst k1
    rw [if_pos rfl]
    cases hs : okS Y A with
    | false =>
      rw [hs, if_neg Bool.false_ne_true] at q2
      unfold optV
      rw [hs]
      refine ACalls.of_code T.hm (n := 192) Tryz.func7 rfl rfl rfl rfl ?_; simp only [List.replicate_succ, List.replicate_zero, List.cons_append, List.nil_append]
      simp (maxSteps := 1000000) (disch := first | exact sd | fail) only [go_sem, Nat.reduceAdd, Nat.reduceSub, Nat.reduceLeDiff, ↓reduceIte, decide_eq_true_eq, if_true, if_false, Bool.false_eq_true, Int.lt_irrefl, implies_true, true_and, and_true, eq_self, and_self, beq_self_eq_true]
      refine PC.step (q1) fun m1 j1 => ?_
      try simp only [Heap.next_push, Heap.next_set, Heap.next_kill, next_bump, next_E0] at j1
      simp (maxSteps := 1000000) (disch := first | exact sd | fail) only [go_sem, Nat.reduceAdd, Nat.reduceSub, Nat.reduceLeDiff, ↓reduceIte, decide_eq_true_eq, if_true, if_false, Bool.false_eq_true, Int.lt_irrefl, implies_true, true_and, and_true, eq_self, and_self, beq_self_eq_true]
      refine PC.step (q2) fun m2 j2 => ?_
      try simp only [Heap.next_push, Heap.next_set, Heap.next_kill, next_bump, next_E0] at j2
      simp (maxSteps := 1000000) (disch := first | exact sd | fail) only [go_sem, Nat.reduceAdd, Nat.reduceSub, Nat.reduceLeDiff, ↓reduceIte, decide_eq_true_eq, if_true, if_false, Bool.false_eq_true, Int.lt_irrefl, implies_true, true_and, and_true, eq_self, and_self, beq_self_eq_true]
      exact .rfl
    | true =>
    rw [hs, if_pos rfl] at q2
    unfold optV
    rw [hs]
    cases hw : withinV n A B C X with
    | false =>
      rw [hw] at q3
      refine ACalls.of_code T.hm (n := 192) Tryz.func7 rfl rfl rfl rfl ?_; simp only [List.replicate_succ, List.replicate_zero, List.cons_append, List.nil_append]
      simp (maxSteps := 1000000) (disch := first | exact sd | fail) only [go_sem, Nat.reduceAdd, Nat.reduceSub, Nat.reduceLeDiff, ↓reduceIte, decide_eq_true_eq, if_true, if_false, Bool.false_eq_true, Int.lt_irrefl, implies_true, true_and, and_true, eq_self, and_self, beq_self_eq_true]
      refine PC.step (q1) fun m1 j1 => ?_
      try simp only [Heap.next_push, Heap.next_set, Heap.next_kill, next_bump, next_E0] at j1
      simp (maxSteps := 1000000) (disch := first | exact sd | fail) only [go_sem, Nat.reduceAdd, Nat.reduceSub, Nat.reduceLeDiff, ↓reduceIte, decide_eq_true_eq, if_true, if_false, Bool.false_eq_true, Int.lt_irrefl, implies_true, true_and, and_true, eq_self, and_self, beq_self_eq_true]
      refine PC.step (q2) fun m2 j2 => ?_
      try simp only [Heap.next_push, Heap.next_set, Heap.next_kill, next_bump, next_E0] at j2
      simp (maxSteps := 1000000) (disch := first | exact sd | fail) only [go_sem, Nat.reduceAdd, Nat.reduceSub, Nat.reduceLeDiff, ↓reduceIte, decide_eq_true_eq, if_true, if_false, Bool.false_eq_true, Int.lt_irrefl, implies_true, true_and, and_true, eq_self, and_self, beq_self_eq_true]
      refine PC.step (q3) fun m3 j3 => ?_
      try simp only [Heap.next_push, Heap.next_set, Heap.next_kill, next_bump, next_E0] at j3
      simp (maxSteps := 1000000) (disch := first | exact sd | fail) only [go_sem, Nat.reduceAdd, Nat.reduceSub, Nat.reduceLeDiff, ↓reduceIte, decide_eq_true_eq, if_true, if_false, Bool.false_eq_true, Int.lt_irrefl, implies_true, true_and, and_true, eq_self, and_self, beq_self_eq_true]
      exact .rfl
    | true =>
    rw [hw] at q3
    have hXn := (within_iff.1 hw).2.1
    by_cases h7 : (0 : Int) < Z.length
    · rw [decide_eq_false (show ¬ Z.length = 0 by omega), Bool.and_false]
      refine ACalls.of_code T.hm (n := 192) Tryz.func7 rfl rfl rfl rfl ?_; simp only [List.replicate_succ, List.replicate_zero, List.cons_append, List.nil_append]
      simp (maxSteps := 1000000) (disch := first | exact sd | fail) only [go_sem, Nat.reduceAdd, Nat.reduceSub, Nat.reduceLeDiff, ↓reduceIte, decide_eq_true_eq, if_true, if_false, Bool.false_eq_true, Int.lt_irrefl, implies_true, true_and, and_true, eq_self, and_self, beq_self_eq_true]
      refine PC.step (q1) fun m1 j1 => ?_
      try simp only [Heap.next_push, Heap.next_set, Heap.next_kill, next_bump, next_E0] at j1
      simp (maxSteps := 1000000) (disch := first | exact sd | fail) only [go_sem, Nat.reduceAdd, Nat.reduceSub, Nat.reduceLeDiff, ↓reduceIte, decide_eq_true_eq, if_true, if_false, Bool.false_eq_true, Int.lt_irrefl, implies_true, true_and, and_true, eq_self, and_self, beq_self_eq_true]
      refine PC.step (q2) fun m2 j2 => ?_
      try simp only [Heap.next_push, Heap.next_set, Heap.next_kill, next_bump, next_E0] at j2
      simp (maxSteps := 1000000) (disch := first | exact sd | fail) only [go_sem, Nat.reduceAdd, Nat.reduceSub, Nat.reduceLeDiff, ↓reduceIte, decide_eq_true_eq, if_true, if_false, Bool.false_eq_true, Int.lt_irrefl, implies_true, true_and, and_true, eq_self, and_self, beq_self_eq_true]
      refine PC.step (q3) fun m3 j3 => ?_
      try simp only [Heap.next_push, Heap.next_set, Heap.next_kill, next_bump, next_E0] at j3
      simp (maxSteps := 1000000) (disch := first | exact sd | fail) only [go_sem, Nat.reduceAdd, Nat.reduceSub, Nat.reduceLeDiff, ↓reduceIte, decide_eq_true_eq, if_true, if_false, Bool.false_eq_true, Int.lt_irrefl, implies_true, true_and, and_true, eq_self, and_self, beq_self_eq_true, h7]
      exact .rfl
    rw [decide_eq_true (show Z.length = 0 by omega)]
    have q4 := p86 hc.rw hx.rw (by omega)
    have q5 := p86 hy.rw hb.rw (by have := (okS_iff.1 hs).1; omega)
    have q6 := p97 hL hc.rw
    have hd2 := hc.dot hx
    generalize leftV Y A n.toNat = L at *
    generalize dotV Y B = b at *
    generalize dotV C X = c at *
    have q7 : PC Tryz.prog 20 [Qn c, .agg ⟨[.bool v.p.neg, Vv eU v.p.l, .bool v.q.neg, Vv eU v.q.l]⟩] (.int .i64 (cq c (vq v))) := by
      have q := p98 (Lr.z (lqn (x := c) (K := 2 ^ 37) (by omega))) (Lr.z (lqd (x := c) (K := 2 ^ 37) (by omega))) hv.lp hv.lq' (pn := sgn c.num) (qn := sgn c.den) (pn' := v.p.neg) (qn' := v.q.neg)
      rw [dq_q] at q
      exact q
    have q8 : PC Tryz.prog 20 [Qn b, .agg ⟨[.bool v.p.neg, Vv eU v.p.l, .bool v.q.neg, Vv eU v.q.l]⟩] (.int .i64 (cq b (vq v))) := by
      have q := p98 (Lr.z (lqn (x := b) (K := 2 ^ 37) (by omega))) (Lr.z (lqd (x := b) (K := 2 ^ 37) (by omega))) hv.lp hv.lq' (pn := sgn b.num) (qn := sgn b.den) (pn' := v.p.neg) (qn' := v.q.neg)
      rw [dq_q] at q
      exact q
    have e7 : decide (cq c (vq v) = 0) = decide (c = vq v) := decide_eq_decide.2 cq_eq
    have e8 : decide (cq b (vq v) = 0) = decide (b = vq v) := decide_eq_decide.2 cq_eq
    rw [← e7, ← e8]
    generalize cq c (vq v) = z7 at *
    generalize cq b (vq v) = z8 at *
    cases hsm : sameV L C with
    | false =>
      rw [hsm] at q6
      refine ACalls.of_code T.hm (n := 192) Tryz.func7 rfl rfl rfl rfl ?_; simp only [List.replicate_succ, List.replicate_zero, List.cons_append, List.nil_append]
      simp (maxSteps := 1000000) (disch := first | exact sd | fail) only [go_sem, Nat.reduceAdd, Nat.reduceSub, Nat.reduceLeDiff, ↓reduceIte, decide_eq_true_eq, if_true, if_false, Bool.false_eq_true, Int.lt_irrefl, implies_true, true_and, and_true, eq_self, and_self, beq_self_eq_true]
      refine PC.step (q1) fun m1 j1 => ?_
      try simp only [Heap.next_push, Heap.next_set, Heap.next_kill, next_bump, next_E0] at j1
      simp (maxSteps := 1000000) (disch := first | exact sd | fail) only [go_sem, Nat.reduceAdd, Nat.reduceSub, Nat.reduceLeDiff, ↓reduceIte, decide_eq_true_eq, if_true, if_false, Bool.false_eq_true, Int.lt_irrefl, implies_true, true_and, and_true, eq_self, and_self, beq_self_eq_true]
      refine PC.step (q2) fun m2 j2 => ?_
      try simp only [Heap.next_push, Heap.next_set, Heap.next_kill, next_bump, next_E0] at j2
      simp (maxSteps := 1000000) (disch := first | exact sd | fail) only [go_sem, Nat.reduceAdd, Nat.reduceSub, Nat.reduceLeDiff, ↓reduceIte, decide_eq_true_eq, if_true, if_false, Bool.false_eq_true, Int.lt_irrefl, implies_true, true_and, and_true, eq_self, and_self, beq_self_eq_true]
      refine PC.step (q3) fun m3 j3 => ?_
      try simp only [Heap.next_push, Heap.next_set, Heap.next_kill, next_bump, next_E0] at j3
      simp (maxSteps := 1000000) (disch := first | exact sd | fail) only [go_sem, Nat.reduceAdd, Nat.reduceSub, Nat.reduceLeDiff, ↓reduceIte, decide_eq_true_eq, if_true, if_false, Bool.false_eq_true, Int.lt_irrefl, implies_true, true_and, and_true, eq_self, and_self, beq_self_eq_true, h7]
      refine PC.step (q4) fun m4 j4 => ?_
      try simp only [Heap.next_push, Heap.next_set, Heap.next_kill, next_bump, next_E0] at j4
      simp (maxSteps := 1000000) (disch := first | exact sd | fail) only [go_sem, Nat.reduceAdd, Nat.reduceSub, Nat.reduceLeDiff, ↓reduceIte, decide_eq_true_eq, if_true, if_false, Bool.false_eq_true, Int.lt_irrefl, implies_true, true_and, and_true, eq_self, and_self, beq_self_eq_true]
      refine PC.step (q5) fun m5 j5 => ?_
      try simp only [Heap.next_push, Heap.next_set, Heap.next_kill, next_bump, next_E0] at j5
      simp (maxSteps := 1000000) (disch := first | exact sd | fail) only [go_sem, Nat.reduceAdd, Nat.reduceSub, Nat.reduceLeDiff, ↓reduceIte, decide_eq_true_eq, if_true, if_false, Bool.false_eq_true, Int.lt_irrefl, implies_true, true_and, and_true, eq_self, and_self, beq_self_eq_true]
      refine PC.step (q6) fun m6 j6 => ?_
      try simp only [Heap.next_push, Heap.next_set, Heap.next_kill, next_bump, next_E0] at j6
      simp (maxSteps := 1000000) (disch := first | exact sd | fail) only [go_sem, Nat.reduceAdd, Nat.reduceSub, Nat.reduceLeDiff, ↓reduceIte, decide_eq_true_eq, if_true, if_false, Bool.false_eq_true, Int.lt_irrefl, implies_true, true_and, and_true, eq_self, and_self, beq_self_eq_true]
      exact .rfl
    | true =>
      rw [hsm] at q6
      by_cases h8 : z7 = 0
      · refine ACalls.of_code T.hm (n := 192) Tryz.func7 rfl rfl rfl rfl ?_; simp only [List.replicate_succ, List.replicate_zero, List.cons_append, List.nil_append]
        simp (maxSteps := 1000000) (disch := first | exact sd | fail) only [go_sem, Nat.reduceAdd, Nat.reduceSub, Nat.reduceLeDiff, ↓reduceIte, decide_eq_true_eq, if_true, if_false, Bool.false_eq_true, Int.lt_irrefl, implies_true, true_and, and_true, eq_self, and_self, beq_self_eq_true]
        refine PC.step (q1) fun m1 j1 => ?_
        try simp only [Heap.next_push, Heap.next_set, Heap.next_kill, next_bump, next_E0] at j1
        simp (maxSteps := 1000000) (disch := first | exact sd | fail) only [go_sem, Nat.reduceAdd, Nat.reduceSub, Nat.reduceLeDiff, ↓reduceIte, decide_eq_true_eq, if_true, if_false, Bool.false_eq_true, Int.lt_irrefl, implies_true, true_and, and_true, eq_self, and_self, beq_self_eq_true]
        refine PC.step (q2) fun m2 j2 => ?_
        try simp only [Heap.next_push, Heap.next_set, Heap.next_kill, next_bump, next_E0] at j2
        simp (maxSteps := 1000000) (disch := first | exact sd | fail) only [go_sem, Nat.reduceAdd, Nat.reduceSub, Nat.reduceLeDiff, ↓reduceIte, decide_eq_true_eq, if_true, if_false, Bool.false_eq_true, Int.lt_irrefl, implies_true, true_and, and_true, eq_self, and_self, beq_self_eq_true]
        refine PC.step (q3) fun m3 j3 => ?_
        try simp only [Heap.next_push, Heap.next_set, Heap.next_kill, next_bump, next_E0] at j3
        simp (maxSteps := 1000000) (disch := first | exact sd | fail) only [go_sem, Nat.reduceAdd, Nat.reduceSub, Nat.reduceLeDiff, ↓reduceIte, decide_eq_true_eq, if_true, if_false, Bool.false_eq_true, Int.lt_irrefl, implies_true, true_and, and_true, eq_self, and_self, beq_self_eq_true, h7]
        refine PC.step (q4) fun m4 j4 => ?_
        try simp only [Heap.next_push, Heap.next_set, Heap.next_kill, next_bump, next_E0] at j4
        simp (maxSteps := 1000000) (disch := first | exact sd | fail) only [go_sem, Nat.reduceAdd, Nat.reduceSub, Nat.reduceLeDiff, ↓reduceIte, decide_eq_true_eq, if_true, if_false, Bool.false_eq_true, Int.lt_irrefl, implies_true, true_and, and_true, eq_self, and_self, beq_self_eq_true]
        refine PC.step (q5) fun m5 j5 => ?_
        try simp only [Heap.next_push, Heap.next_set, Heap.next_kill, next_bump, next_E0] at j5
        simp (maxSteps := 1000000) (disch := first | exact sd | fail) only [go_sem, Nat.reduceAdd, Nat.reduceSub, Nat.reduceLeDiff, ↓reduceIte, decide_eq_true_eq, if_true, if_false, Bool.false_eq_true, Int.lt_irrefl, implies_true, true_and, and_true, eq_self, and_self, beq_self_eq_true]
        refine PC.step (q6) fun m6 j6 => ?_
        try simp only [Heap.next_push, Heap.next_set, Heap.next_kill, next_bump, next_E0] at j6
        simp (maxSteps := 1000000) (disch := first | exact sd | fail) only [go_sem, Nat.reduceAdd, Nat.reduceSub, Nat.reduceLeDiff, ↓reduceIte, decide_eq_true_eq, if_true, if_false, Bool.false_eq_true, Int.lt_irrefl, implies_true, true_and, and_true, eq_self, and_self, beq_self_eq_true]
        refine PC.step (q7) fun m7 j7 => ?_
        try simp only [Heap.next_push, Heap.next_set, Heap.next_kill, next_bump, next_E0] at j7
        simp (maxSteps := 1000000) (disch := first | exact sd | fail) only [go_sem, Nat.reduceAdd, Nat.reduceSub, Nat.reduceLeDiff, ↓reduceIte, decide_eq_true_eq, if_true, if_false, Bool.false_eq_true, Int.lt_irrefl, implies_true, true_and, and_true, eq_self, and_self, beq_self_eq_true, h8]
        refine PC.step (q8) fun m8 j8 => ?_
        try simp only [Heap.next_push, Heap.next_set, Heap.next_kill, next_bump, next_E0] at j8
        simp (maxSteps := 1000000) (disch := first | exact sd | fail) only [go_sem, Nat.reduceAdd, Nat.reduceSub, Nat.reduceLeDiff, ↓reduceIte, decide_eq_true_eq, if_true, if_false, Bool.false_eq_true, Int.lt_irrefl, implies_true, true_and, and_true, eq_self, and_self, beq_self_eq_true]
        simp only [Bool.true_and, decide_true]
        exact .rfl
      · refine ACalls.of_code T.hm (n := 192) Tryz.func7 rfl rfl rfl rfl ?_; simp only [List.replicate_succ, List.replicate_zero, List.cons_append, List.nil_append]
        simp (maxSteps := 1000000) (disch := first | exact sd | fail) only [go_sem, Nat.reduceAdd, Nat.reduceSub, Nat.reduceLeDiff, ↓reduceIte, decide_eq_true_eq, if_true, if_false, Bool.false_eq_true, Int.lt_irrefl, implies_true, true_and, and_true, eq_self, and_self, beq_self_eq_true]
        refine PC.step (q1) fun m1 j1 => ?_
        try simp only [Heap.next_push, Heap.next_set, Heap.next_kill, next_bump, next_E0] at j1
        simp (maxSteps := 1000000) (disch := first | exact sd | fail) only [go_sem, Nat.reduceAdd, Nat.reduceSub, Nat.reduceLeDiff, ↓reduceIte, decide_eq_true_eq, if_true, if_false, Bool.false_eq_true, Int.lt_irrefl, implies_true, true_and, and_true, eq_self, and_self, beq_self_eq_true]
        refine PC.step (q2) fun m2 j2 => ?_
        try simp only [Heap.next_push, Heap.next_set, Heap.next_kill, next_bump, next_E0] at j2
        simp (maxSteps := 1000000) (disch := first | exact sd | fail) only [go_sem, Nat.reduceAdd, Nat.reduceSub, Nat.reduceLeDiff, ↓reduceIte, decide_eq_true_eq, if_true, if_false, Bool.false_eq_true, Int.lt_irrefl, implies_true, true_and, and_true, eq_self, and_self, beq_self_eq_true]
        refine PC.step (q3) fun m3 j3 => ?_
        try simp only [Heap.next_push, Heap.next_set, Heap.next_kill, next_bump, next_E0] at j3
        simp (maxSteps := 1000000) (disch := first | exact sd | fail) only [go_sem, Nat.reduceAdd, Nat.reduceSub, Nat.reduceLeDiff, ↓reduceIte, decide_eq_true_eq, if_true, if_false, Bool.false_eq_true, Int.lt_irrefl, implies_true, true_and, and_true, eq_self, and_self, beq_self_eq_true, h7]
        refine PC.step (q4) fun m4 j4 => ?_
        try simp only [Heap.next_push, Heap.next_set, Heap.next_kill, next_bump, next_E0] at j4
        simp (maxSteps := 1000000) (disch := first | exact sd | fail) only [go_sem, Nat.reduceAdd, Nat.reduceSub, Nat.reduceLeDiff, ↓reduceIte, decide_eq_true_eq, if_true, if_false, Bool.false_eq_true, Int.lt_irrefl, implies_true, true_and, and_true, eq_self, and_self, beq_self_eq_true]
        refine PC.step (q5) fun m5 j5 => ?_
        try simp only [Heap.next_push, Heap.next_set, Heap.next_kill, next_bump, next_E0] at j5
        simp (maxSteps := 1000000) (disch := first | exact sd | fail) only [go_sem, Nat.reduceAdd, Nat.reduceSub, Nat.reduceLeDiff, ↓reduceIte, decide_eq_true_eq, if_true, if_false, Bool.false_eq_true, Int.lt_irrefl, implies_true, true_and, and_true, eq_self, and_self, beq_self_eq_true]
        refine PC.step (q6) fun m6 j6 => ?_
        try simp only [Heap.next_push, Heap.next_set, Heap.next_kill, next_bump, next_E0] at j6
        simp (maxSteps := 1000000) (disch := first | exact sd | fail) only [go_sem, Nat.reduceAdd, Nat.reduceSub, Nat.reduceLeDiff, ↓reduceIte, decide_eq_true_eq, if_true, if_false, Bool.false_eq_true, Int.lt_irrefl, implies_true, true_and, and_true, eq_self, and_self, beq_self_eq_true]
        refine PC.step (q7) fun m7 j7 => ?_
        try simp only [Heap.next_push, Heap.next_set, Heap.next_kill, next_bump, next_E0] at j7
        simp (maxSteps := 1000000) (disch := first | exact sd | fail) only [go_sem, Nat.reduceAdd, Nat.reduceSub, Nat.reduceLeDiff, ↓reduceIte, decide_eq_true_eq, if_true, if_false, Bool.false_eq_true, Int.lt_irrefl, implies_true, true_and, and_true, eq_self, and_self, beq_self_eq_true, h8]
        exact .rfl
  rw [if_neg k1]
  by_cases k2 : k = 2
  · subst k2
    rw [if_pos rfl]
    have k1 : ¬ (2 : Int) = 1 := by decide
    cases hs : okS Y A with
    | false =>
      rw [hs, if_neg Bool.false_ne_true] at q2
      unfold infV
      rw [hs]
      refine ACalls.of_code T.hm (n := 192) Tryz.func7 rfl rfl rfl rfl ?_; simp only [List.replicate_succ, List.replicate_zero, List.cons_append, List.nil_append]
      simp (maxSteps := 1000000) (disch := first | exact sd | fail) only [go_sem, Nat.reduceAdd, Nat.reduceSub, Nat.reduceLeDiff, ↓reduceIte, decide_eq_true_eq, if_true, if_false, Bool.false_eq_true, Int.lt_irrefl, implies_true, true_and, and_true, eq_self, and_self, beq_self_eq_true]
      refine PC.step (q1) fun m1 j1 => ?_
      try simp only [Heap.next_push, Heap.next_set, Heap.next_kill, next_bump, next_E0] at j1
      simp (maxSteps := 1000000) (disch := first | exact sd | fail) only [go_sem, Nat.reduceAdd, Nat.reduceSub, Nat.reduceLeDiff, ↓reduceIte, decide_eq_true_eq, if_true, if_false, Bool.false_eq_true, Int.lt_irrefl, implies_true, true_and, and_true, eq_self, and_self, beq_self_eq_true, k1]
      refine PC.step (q2) fun m2 j2 => ?_
      try simp only [Heap.next_push, Heap.next_set, Heap.next_kill, next_bump, next_E0] at j2
      simp (maxSteps := 1000000) (disch := first | exact sd | fail) only [go_sem, Nat.reduceAdd, Nat.reduceSub, Nat.reduceLeDiff, ↓reduceIte, decide_eq_true_eq, if_true, if_false, Bool.false_eq_true, Int.lt_irrefl, implies_true, true_and, and_true, eq_self, and_self, beq_self_eq_true]
      exact .rfl
    | true =>
    rw [hs, if_pos rfl] at q2
    unfold infV
    rw [hs]
    have e4 : decide (cq (vq v) 0 = 0) = decide (vq v = 0) := decide_eq_decide.2 cq_eq
    rw [← e4]
    generalize cq (vq v) 0 = z4 at *
    by_cases h7 : (0 : Int) < X.length
    · rw [decide_eq_false (show ¬ X.length = 0 by omega)]
      refine ACalls.of_code T.hm (n := 192) Tryz.func7 rfl rfl rfl rfl ?_; simp only [List.replicate_succ, List.replicate_zero, List.cons_append, List.nil_append]
      simp (maxSteps := 1000000) (disch := first | exact sd | fail) only [go_sem, Nat.reduceAdd, Nat.reduceSub, Nat.reduceLeDiff, ↓reduceIte, decide_eq_true_eq, if_true, if_false, Bool.false_eq_true, Int.lt_irrefl, implies_true, true_and, and_true, eq_self, and_self, beq_self_eq_true]
      refine PC.step (q1) fun m1 j1 => ?_
      try simp only [Heap.next_push, Heap.next_set, Heap.next_kill, next_bump, next_E0] at j1
      simp (maxSteps := 1000000) (disch := first | exact sd | fail) only [go_sem, Nat.reduceAdd, Nat.reduceSub, Nat.reduceLeDiff, ↓reduceIte, decide_eq_true_eq, if_true, if_false, Bool.false_eq_true, Int.lt_irrefl, implies_true, true_and, and_true, eq_self, and_self, beq_self_eq_true, k1]
      refine PC.step (q2) fun m2 j2 => ?_
      try simp only [Heap.next_push, Heap.next_set, Heap.next_kill, next_bump, next_E0] at j2
      simp (maxSteps := 1000000) (disch := first | exact sd | fail) only [go_sem, Nat.reduceAdd, Nat.reduceSub, Nat.reduceLeDiff, ↓reduceIte, decide_eq_true_eq, if_true, if_false, Bool.false_eq_true, Int.lt_irrefl, implies_true, true_and, and_true, eq_self, and_self, beq_self_eq_true, h7]
      exact .rfl
    rw [decide_eq_true (show X.length = 0 by omega)]
    by_cases h8 : (0 : Int) < Z.length
    · rw [decide_eq_false (show ¬ Z.length = 0 by omega)]
      refine ACalls.of_code T.hm (n := 192) Tryz.func7 rfl rfl rfl rfl ?_; simp only [List.replicate_succ, List.replicate_zero, List.cons_append, List.nil_append]
      simp (maxSteps := 1000000) (disch := first | exact sd | fail) only [go_sem, Nat.reduceAdd, Nat.reduceSub, Nat.reduceLeDiff, ↓reduceIte, decide_eq_true_eq, if_true, if_false, Bool.false_eq_true, Int.lt_irrefl, implies_true, true_and, and_true, eq_self, and_self, beq_self_eq_true]
      refine PC.step (q1) fun m1 j1 => ?_
      try simp only [Heap.next_push, Heap.next_set, Heap.next_kill, next_bump, next_E0] at j1
      simp (maxSteps := 1000000) (disch := first | exact sd | fail) only [go_sem, Nat.reduceAdd, Nat.reduceSub, Nat.reduceLeDiff, ↓reduceIte, decide_eq_true_eq, if_true, if_false, Bool.false_eq_true, Int.lt_irrefl, implies_true, true_and, and_true, eq_self, and_self, beq_self_eq_true, k1]
      refine PC.step (q2) fun m2 j2 => ?_
      try simp only [Heap.next_push, Heap.next_set, Heap.next_kill, next_bump, next_E0] at j2
      simp (maxSteps := 1000000) (disch := first | exact sd | fail) only [go_sem, Nat.reduceAdd, Nat.reduceSub, Nat.reduceLeDiff, ↓reduceIte, decide_eq_true_eq, if_true, if_false, Bool.false_eq_true, Int.lt_irrefl, implies_true, true_and, and_true, eq_self, and_self, beq_self_eq_true, h7, h8]
      exact .rfl
    rw [decide_eq_true (show Z.length = 0 by omega)]
    by_cases h9 : z4 = 0
    rotate_left
    · refine ACalls.of_code T.hm (n := 192) Tryz.func7 rfl rfl rfl rfl ?_; simp only [List.replicate_succ, List.replicate_zero, List.cons_append, List.nil_append]
      simp (maxSteps := 1000000) (disch := first | exact sd | fail) only [go_sem, Nat.reduceAdd, Nat.reduceSub, Nat.reduceLeDiff, ↓reduceIte, decide_eq_true_eq, if_true, if_false, Bool.false_eq_true, Int.lt_irrefl, implies_true, true_and, and_true, eq_self, and_self, beq_self_eq_true]
      refine PC.step (q1) fun m1 j1 => ?_
      try simp only [Heap.next_push, Heap.next_set, Heap.next_kill, next_bump, next_E0] at j1
      simp (maxSteps := 1000000) (disch := first | exact sd | fail) only [go_sem, Nat.reduceAdd, Nat.reduceSub, Nat.reduceLeDiff, ↓reduceIte, decide_eq_true_eq, if_true, if_false, Bool.false_eq_true, Int.lt_irrefl, implies_true, true_and, and_true, eq_self, and_self, beq_self_eq_true, k1]
      refine PC.step (q2) fun m2 j2 => ?_
      try simp only [Heap.next_push, Heap.next_set, Heap.next_kill, next_bump, next_E0] at j2
      simp (maxSteps := 1000000) (disch := first | exact sd | fail) only [go_sem, Nat.reduceAdd, Nat.reduceSub, Nat.reduceLeDiff, ↓reduceIte, decide_eq_true_eq, if_true, if_false, Bool.false_eq_true, Int.lt_irrefl, implies_true, true_and, and_true, eq_self, and_self, beq_self_eq_true, h7, h8]
      refine PC.step (qv) fun m3 j3 => ?_
      try simp only [Heap.next_push, Heap.next_set, Heap.next_kill, next_bump, next_E0] at j3
      simp (maxSteps := 1000000) (disch := first | exact sd | fail) only [go_sem, Nat.reduceAdd, Nat.reduceSub, Nat.reduceLeDiff, ↓reduceIte, decide_eq_true_eq, if_true, if_false, Bool.false_eq_true, Int.lt_irrefl, implies_true, true_and, and_true, eq_self, and_self, beq_self_eq_true, h9, ne_eq, not_false_eq_true]
      exact .rfl
    have q5 := p86 hy.rw hb.rw (by have := (okS_iff.1 hs).1; omega)
    generalize leftV Y A n.toNat = L at *
    generalize dotV Y B = b at *
    have q6 := p287q (x := b) (by omega)
    have e6 : decide (cq b 0 < 0) = decide (b < 0) := decide_eq_decide.2 cq_neg
    rw [← e6]
    generalize cq b 0 = z6 at *
    have hn := hL.1
    refine ACalls.of_code T.hm (n := 192) Tryz.func7 rfl rfl rfl rfl ?_; simp only [List.replicate_succ, List.replicate_zero, List.cons_append, List.nil_append]
    simp (maxSteps := 1000000) (disch := first | exact sd | fail) only [go_sem, Nat.reduceAdd, Nat.reduceSub, Nat.reduceLeDiff, ↓reduceIte, decide_eq_true_eq, if_true, if_false, Bool.false_eq_true, Int.lt_irrefl, implies_true, true_and, and_true, eq_self, and_self, beq_self_eq_true]
    refine PC.step (q1) fun m1 j1 => ?_
    try simp only [Heap.next_push, Heap.next_set, Heap.next_kill, next_bump, next_E0] at j1
    simp (maxSteps := 1000000) (disch := first | exact sd | fail) only [go_sem, Nat.reduceAdd, Nat.reduceSub, Nat.reduceLeDiff, ↓reduceIte, decide_eq_true_eq, if_true, if_false, Bool.false_eq_true, Int.lt_irrefl, implies_true, true_and, and_true, eq_self, and_self, beq_self_eq_true, k1]
    refine PC.step (q2) fun m2 j2 => ?_
    try simp only [Heap.next_push, Heap.next_set, Heap.next_kill, next_bump, next_E0] at j2
    simp (maxSteps := 1000000) (disch := first | exact sd | fail) only [go_sem, Nat.reduceAdd, Nat.reduceSub, Nat.reduceLeDiff, ↓reduceIte, decide_eq_true_eq, if_true, if_false, Bool.false_eq_true, Int.lt_irrefl, implies_true, true_and, and_true, eq_self, and_self, beq_self_eq_true, h7, h8]
    refine PC.step (qv) fun m3 j3 => ?_
    try simp only [Heap.next_push, Heap.next_set, Heap.next_kill, next_bump, next_E0] at j3
    simp (maxSteps := 1000000) (disch := first | exact sd | fail) only [go_sem, Nat.reduceAdd, Nat.reduceSub, Nat.reduceLeDiff, ↓reduceIte, decide_eq_true_eq, if_true, if_false, Bool.false_eq_true, Int.lt_irrefl, implies_true, true_and, and_true, eq_self, and_self, beq_self_eq_true, h9, ne_eq, not_true_eq_false]
    refine PC.step (q5) fun m5 j5 => ?_
    try simp only [Heap.next_push, Heap.next_set, Heap.next_kill, next_bump, next_E0] at j5
    simp (maxSteps := 1000000) (disch := first | exact sd | fail) only [go_sem, Nat.reduceAdd, Nat.reduceSub, Nat.reduceLeDiff, ↓reduceIte, decide_eq_true_eq, if_true, if_false, Bool.false_eq_true, Int.lt_irrefl, implies_true, true_and, and_true, eq_self, and_self, beq_self_eq_true]
    generalize hG : Heap.set _ m5 _ = G
    have gG : G.get m5 = some (.row true 30 [.bool (sgn b.num), Vv eU (lmb b.num), .bool (sgn b.den), Vv eU (lmb b.den)]) := by rw [← hG]; simp (maxSteps := 1000000) (disch := first | exact sd | fail) only [go_sem, Nat.reduceAdd, Nat.reduceSub, Nat.reduceLeDiff, ↓reduceIte, decide_eq_true_eq, if_true, if_false, Bool.false_eq_true, Int.lt_irrefl, implies_true, true_and, and_true, eq_self, and_self, beq_self_eq_true]
    clear hG
    refine aw_loopJ (σ := Nat) (fun s J => [J 0, J 1, J 2, J 3, .bool false, J 5, J 6, J 7, J 8, J 9, J 10, Vv eQ L, J 12, .pointer (some ⟨m5, 0, none⟩), J 14, .int .i64 s, J 16, J 17, J 18, J 19, J 20, J 21, J 22, J 23, J 24, J 25, J 26, J 27, J 28, J 29, J 30, J 31, J 32, J 33, J 34, J 35, J 36, J 37, J 38, J 39, J 40, J 41, J 42, J 43, J 44, J 45, J 46, J 47, J 48, J 49, J 50, J 51, J 52, J 53, J 54, J 55, J 56, J 57, J 58, J 59, J 60, J 61, J 62, J 63, J 64, J 65, J 66, J 67, J 68, J 69, J 70, J 71, J 72, J 73, J 74, J 75, J 76, J 77, J 78, J 79, J 80, J 81, J 82, J 83, J 84, J 85, J 86, J 87, J 88, J 89, J 90, J 91, J 92, J 93, J 94, J 95, J 96, J 97, J 98, J 99, J 100, J 101, J 102, J 103, J 104, J 105, J 106, J 107, J 108, J 109, J 110, J 111, J 112, J 113, J 114, J 115, J 116, J 117, J 118, J 119, J 120, J 121, J 122, J 123, J 124, J 125, J 126, J 127, J 128, J 129, J 130, J 131, J 132, J 133, J 134, J 135, J 136, J 137, J 138, J 139, J 140, J 141, J 142, J 143, J 144, J 145, J 146, J 147, J 148, J 149, J 150, J 151, J 152, J 153, J 154, J 155, J 156, J 157, J 158, J 159, J 160, J 161, J 162, J 163, J 164, J 165, J 166, J 167, J 168, J 169, J 170, J 171, J 172, J 173, J 174, J 175, J 176, J 177, J 178, J 179, J 180, J 181, J 182, J 183, J 184, J 185, J 186, J 187, J 188, J 189, J 190, J 191, J 192, J 193]) (fun m s H1 => m = L.length - s ∧ s ≤ L.length ∧ H1.get m5 = some (.row true 30 [.bool (sgn b.num), Vv eU (lmb b.num), .bool (sgn b.den), Vv eU (lmb b.den)]) ∧ ∀ i, i < s → ev L i = 0) L.length 0 rfl ⟨rfl, Nat.zero_le _, gG, fun i hi => by omega⟩ ?_
    clear gG
    rintro m s J H1 ⟨rfl, hs2, gG, hall⟩
    by_cases h10 : (s : Int) < L.length
    · have q9 := p287v (hL.getD s)
      change PC Tryz.prog 21 _ (.int .i64 (cq (ev L s) 0)) at q9
      by_cases h11 : cq (ev L s) 0 = 0
      · simp (maxSteps := 1000000) (disch := first | exact sd | fail) only [go_sem, Nat.reduceAdd, Nat.reduceSub, Nat.reduceLeDiff, ↓reduceIte, decide_eq_true_eq, if_true, if_false, Bool.false_eq_true, Int.lt_irrefl, implies_true, true_and, and_true, eq_self, and_self, beq_self_eq_true, h10, Int.toNat_natCast]
        refine (PC.peek q9 rfl .refl ?_)
        simp (maxSteps := 1000000) (disch := first | exact sd | fail) only [go_sem, Nat.reduceAdd, Nat.reduceSub, Nat.reduceLeDiff, ↓reduceIte, decide_eq_true_eq, if_true, if_false, Bool.false_eq_true, Int.lt_irrefl, implies_true, true_and, and_true, eq_self, and_self, beq_self_eq_true, h11, ne_eq, not_true_eq_false]
        refine IJ_intro (k := L.length - (s + 1)) (by omega) (s + 1) rfl ⟨rfl, by omega, gG, fun i hi => ?_⟩
        rcases Nat.lt_or_ge i s with h12 | h12
        · exact hall i h12
        · have : i = s := by omega
          subst this; exact cq_eq.1 h11
      · simp (maxSteps := 1000000) (disch := first | exact sd | fail) only [go_sem, Nat.reduceAdd, Nat.reduceSub, Nat.reduceLeDiff, ↓reduceIte, decide_eq_true_eq, if_true, if_false, Bool.false_eq_true, Int.lt_irrefl, implies_true, true_and, and_true, eq_self, and_self, beq_self_eq_true, h10, Int.toNat_natCast]
        refine (PC.peek q9 rfl .refl ?_)
        simp (maxSteps := 1000000) (disch := first | exact sd | fail) only [go_sem, Nat.reduceAdd, Nat.reduceSub, Nat.reduceLeDiff, ↓reduceIte, decide_eq_true_eq, if_true, if_false, Bool.false_eq_true, Int.lt_irrefl, implies_true, true_and, and_true, eq_self, and_self, beq_self_eq_true, h11, ne_eq, not_false_eq_true]
        rw [sameV_no (i := s) (by omega) (by rw [ev_noughts]; exact fun h => h11 (cq_eq.2 h))]
        simp only [Bool.and_false, Bool.false_and]
        exact .rfl
    · have hsm : sameV L (List.replicate n.toNat eQ.d) = true := sameV_of (by simpa using hlen) fun i hi => by rw [ev_noughts]; exact hall i (by omega)
      rw [hsm]
      simp (maxSteps := 1000000) (disch := first | exact sd | fail) only [go_sem, Nat.reduceAdd, Nat.reduceSub, Nat.reduceLeDiff, ↓reduceIte, decide_eq_true_eq, if_true, if_false, Bool.false_eq_true, Int.lt_irrefl, implies_true, true_and, and_true, eq_self, and_self, beq_self_eq_true, h10, gG]
      refine PC.step (q6) fun m6 j6 => ?_
      try simp only [Heap.next_push, Heap.next_set, Heap.next_kill, next_bump, next_E0] at j6
      simp (maxSteps := 1000000) (disch := first | exact sd | fail) only [go_sem, Nat.reduceAdd, Nat.reduceSub, Nat.reduceLeDiff, ↓reduceIte, decide_eq_true_eq, if_true, if_false, Bool.false_eq_true, Int.lt_irrefl, implies_true, true_and, and_true, eq_self, and_self, beq_self_eq_true]
      simp only [Bool.true_and]
      exact .rfl
  rw [if_neg k2]
  by_cases k3 : k = 3
  · subst k3
    rw [if_pos rfl]
    have k1 : ¬ (3 : Int) = 1 := by decide
    have k2 : ¬ (3 : Int) = 2 := by decide
    have e4 : decide (cq (vq v) 0 = 0) = decide (vq v = 0) := decide_eq_decide.2 cq_eq
    unfold unbV
    rw [← e4]
    generalize cq (vq v) 0 = z4 at *
    cases hw : withinV n A B C X with
    | false =>
      rw [hw] at q3
      refine ACalls.of_code T.hm (n := 192) Tryz.func7 rfl rfl rfl rfl ?_; simp only [List.replicate_succ, List.replicate_zero, List.cons_append, List.nil_append]
      simp (maxSteps := 1000000) (disch := first | exact sd | fail) only [go_sem, Nat.reduceAdd, Nat.reduceSub, Nat.reduceLeDiff, ↓reduceIte, decide_eq_true_eq, if_true, if_false, Bool.false_eq_true, Int.lt_irrefl, implies_true, true_and, and_true, eq_self, and_self, beq_self_eq_true]
      refine PC.step (q1) fun m1 j1 => ?_
      try simp only [Heap.next_push, Heap.next_set, Heap.next_kill, next_bump, next_E0] at j1
      simp (maxSteps := 1000000) (disch := first | exact sd | fail) only [go_sem, Nat.reduceAdd, Nat.reduceSub, Nat.reduceLeDiff, ↓reduceIte, decide_eq_true_eq, if_true, if_false, Bool.false_eq_true, Int.lt_irrefl, implies_true, true_and, and_true, eq_self, and_self, beq_self_eq_true, k1, k2]
      refine PC.step (q3) fun m2 j2 => ?_
      try simp only [Heap.next_push, Heap.next_set, Heap.next_kill, next_bump, next_E0] at j2
      simp (maxSteps := 1000000) (disch := first | exact sd | fail) only [go_sem, Nat.reduceAdd, Nat.reduceSub, Nat.reduceLeDiff, ↓reduceIte, decide_eq_true_eq, if_true, if_false, Bool.false_eq_true, Int.lt_irrefl, implies_true, true_and, and_true, eq_self, and_self, beq_self_eq_true]
      exact .rfl
    | true =>
    rw [hw] at q3
    by_cases h7 : (Z.length : Int) = n
    rotate_left
    · refine ACalls.of_code T.hm (n := 192) Tryz.func7 rfl rfl rfl rfl ?_; simp only [List.replicate_succ, List.replicate_zero, List.cons_append, List.nil_append]
      simp (maxSteps := 1000000) (disch := first | exact sd | fail) only [go_sem, Nat.reduceAdd, Nat.reduceSub, Nat.reduceLeDiff, ↓reduceIte, decide_eq_true_eq, if_true, if_false, Bool.false_eq_true, Int.lt_irrefl, implies_true, true_and, and_true, eq_self, and_self, beq_self_eq_true]
      refine PC.step (q1) fun m1 j1 => ?_
      try simp only [Heap.next_push, Heap.next_set, Heap.next_kill, next_bump, next_E0] at j1
      simp (maxSteps := 1000000) (disch := first | exact sd | fail) only [go_sem, Nat.reduceAdd, Nat.reduceSub, Nat.reduceLeDiff, ↓reduceIte, decide_eq_true_eq, if_true, if_false, Bool.false_eq_true, Int.lt_irrefl, implies_true, true_and, and_true, eq_self, and_self, beq_self_eq_true, k1, k2]
      refine PC.step (q3) fun m2 j2 => ?_
      try simp only [Heap.next_push, Heap.next_set, Heap.next_kill, next_bump, next_E0] at j2
      simp (maxSteps := 1000000) (disch := first | exact sd | fail) only [go_sem, Nat.reduceAdd, Nat.reduceSub, Nat.reduceLeDiff, ↓reduceIte, decide_eq_true_eq, if_true, if_false, Bool.false_eq_true, Int.lt_irrefl, implies_true, true_and, and_true, eq_self, and_self, beq_self_eq_true, h7, ne_eq, not_false_eq_true]
      exact .rfl
    rw [decide_eq_true h7]
    by_cases h8 : (0 : Int) < Y.length
    · rw [decide_eq_false (show ¬ Y.length = 0 by omega)]
      refine ACalls.of_code T.hm (n := 192) Tryz.func7 rfl rfl rfl rfl ?_; simp only [List.replicate_succ, List.replicate_zero, List.cons_append, List.nil_append]
      simp (maxSteps := 1000000) (disch := first | exact sd | fail) only [go_sem, Nat.reduceAdd, Nat.reduceSub, Nat.reduceLeDiff, ↓reduceIte, decide_eq_true_eq, if_true, if_false, Bool.false_eq_true, Int.lt_irrefl, implies_true, true_and, and_true, eq_self, and_self, beq_self_eq_true]
      refine PC.step (q1) fun m1 j1 => ?_
      try simp only [Heap.next_push, Heap.next_set, Heap.next_kill, next_bump, next_E0] at j1
      simp (maxSteps := 1000000) (disch := first | exact sd | fail) only [go_sem, Nat.reduceAdd, Nat.reduceSub, Nat.reduceLeDiff, ↓reduceIte, decide_eq_true_eq, if_true, if_false, Bool.false_eq_true, Int.lt_irrefl, implies_true, true_and, and_true, eq_self, and_self, beq_self_eq_true, k1, k2]
      refine PC.step (q3) fun m2 j2 => ?_
      try simp only [Heap.next_push, Heap.next_set, Heap.next_kill, next_bump, next_E0] at j2
      simp (maxSteps := 1000000) (disch := first | exact sd | fail) only [go_sem, Nat.reduceAdd, Nat.reduceSub, Nat.reduceLeDiff, ↓reduceIte, decide_eq_true_eq, if_true, if_false, Bool.false_eq_true, Int.lt_irrefl, implies_true, true_and, and_true, eq_self, and_self, beq_self_eq_true, h7, h8, ne_eq, not_true_eq_false]
      exact .rfl
    rw [decide_eq_true (show Y.length = 0 by omega)]
    by_cases h9 : z4 = 0
    rotate_left
    · refine ACalls.of_code T.hm (n := 192) Tryz.func7 rfl rfl rfl rfl ?_; simp only [List.replicate_succ, List.replicate_zero, List.cons_append, List.nil_append]
      simp (maxSteps := 1000000) (disch := first | exact sd | fail) only [go_sem, Nat.reduceAdd, Nat.reduceSub, Nat.reduceLeDiff, ↓reduceIte, decide_eq_true_eq, if_true, if_false, Bool.false_eq_true, Int.lt_irrefl, implies_true, true_and, and_true, eq_self, and_self, beq_self_eq_true]
      refine PC.step (q1) fun m1 j1 => ?_
      try simp only [Heap.next_push, Heap.next_set, Heap.next_kill, next_bump, next_E0] at j1
      simp (maxSteps := 1000000) (disch := first | exact sd | fail) only [go_sem, Nat.reduceAdd, Nat.reduceSub, Nat.reduceLeDiff, ↓reduceIte, decide_eq_true_eq, if_true, if_false, Bool.false_eq_true, Int.lt_irrefl, implies_true, true_and, and_true, eq_self, and_self, beq_self_eq_true, k1, k2]
      refine PC.step (q3) fun m2 j2 => ?_
      try simp only [Heap.next_push, Heap.next_set, Heap.next_kill, next_bump, next_E0] at j2
      simp (maxSteps := 1000000) (disch := first | exact sd | fail) only [go_sem, Nat.reduceAdd, Nat.reduceSub, Nat.reduceLeDiff, ↓reduceIte, decide_eq_true_eq, if_true, if_false, Bool.false_eq_true, Int.lt_irrefl, implies_true, true_and, and_true, eq_self, and_self, beq_self_eq_true, h7, h8, ne_eq, not_true_eq_false]
      refine PC.step (qv) fun m3 j3 => ?_
      try simp only [Heap.next_push, Heap.next_set, Heap.next_kill, next_bump, next_E0] at j3
      simp (maxSteps := 1000000) (disch := first | exact sd | fail) only [go_sem, Nat.reduceAdd, Nat.reduceSub, Nat.reduceLeDiff, ↓reduceIte, decide_eq_true_eq, if_true, if_false, Bool.false_eq_true, Int.lt_irrefl, implies_true, true_and, and_true, eq_self, and_self, beq_self_eq_true, h9, ne_eq, not_false_eq_true]
      exact .rfl
    have hk : okT A Z.length := fun j hj => by have := h6 j hj; omega
    have q4 := p93 (by omega) (fun j => (hr j).rw) hz.rw hk
    have hw2 := Rg.times hA hr hz
    have he : ∀ i, i < A.length → ev (timesV A Z) i = dotV (rwi A i) Z := fun i hi => ev_tab hi
    have hn2 : (timesV A Z).length = A.length := tab_len
    have hn := hw2.1
    generalize timesV A Z = T9 at *
    have q5 := p86 hc.rw hz.rw (by omega)
    have hd2 := hc.dot hz
    generalize dotV C Z = c at *
    have q6 := p287q (x := c) (by omega)
    have e6 : decide (0 < cq c 0) = decide (0 < c) := decide_eq_decide.2 cq_pos
    rw [← e6]
    generalize cq c 0 = z6 at *
    refine ACalls.of_code T.hm (n := 192) Tryz.func7 rfl rfl rfl rfl ?_; simp only [List.replicate_succ, List.replicate_zero, List.cons_append, List.nil_append]
    simp (maxSteps := 1000000) (disch := first | exact sd | fail) only [go_sem, Nat.reduceAdd, Nat.reduceSub, Nat.reduceLeDiff, ↓reduceIte, decide_eq_true_eq, if_true, if_false, Bool.false_eq_true, Int.lt_irrefl, implies_true, true_and, and_true, eq_self, and_self, beq_self_eq_true]
    refine PC.step (q1) fun m1 j1 => ?_
    try simp only [Heap.next_push, Heap.next_set, Heap.next_kill, next_bump, next_E0] at j1
    simp (maxSteps := 1000000) (disch := first | exact sd | fail) only [go_sem, Nat.reduceAdd, Nat.reduceSub, Nat.reduceLeDiff, ↓reduceIte, decide_eq_true_eq, if_true, if_false, Bool.false_eq_true, Int.lt_irrefl, implies_true, true_and, and_true, eq_self, and_self, beq_self_eq_true, k1, k2]
    refine PC.step (q3) fun m2 j2 => ?_
    try simp only [Heap.next_push, Heap.next_set, Heap.next_kill, next_bump, next_E0] at j2
    simp (maxSteps := 1000000) (disch := first | exact sd | fail) only [go_sem, Nat.reduceAdd, Nat.reduceSub, Nat.reduceLeDiff, ↓reduceIte, decide_eq_true_eq, if_true, if_false, Bool.false_eq_true, Int.lt_irrefl, implies_true, true_and, and_true, eq_self, and_self, beq_self_eq_true, h7, h8, ne_eq, not_true_eq_false]
    refine PC.step (qv) fun m3 j3 => ?_
    try simp only [Heap.next_push, Heap.next_set, Heap.next_kill, next_bump, next_E0] at j3
    simp (maxSteps := 1000000) (disch := first | exact sd | fail) only [go_sem, Nat.reduceAdd, Nat.reduceSub, Nat.reduceLeDiff, ↓reduceIte, decide_eq_true_eq, if_true, if_false, Bool.false_eq_true, Int.lt_irrefl, implies_true, true_and, and_true, eq_self, and_self, beq_self_eq_true, h9, ne_eq, not_true_eq_false]
    refine PC.step (q4) fun m4 j4 => ?_
    try simp only [Heap.next_push, Heap.next_set, Heap.next_kill, next_bump, next_E0] at j4
    simp (maxSteps := 1000000) (disch := first | exact sd | fail) only [go_sem, Nat.reduceAdd, Nat.reduceSub, Nat.reduceLeDiff, ↓reduceIte, decide_eq_true_eq, if_true, if_false, Bool.false_eq_true, Int.lt_irrefl, implies_true, true_and, and_true, eq_self, and_self, beq_self_eq_true]
    generalize hG : Heap.bump _ m4 = G
    have gG : G.get N = some (.row true 25 [.int .i64 n, Vv eR A, Vv eQ B, Vv eQ C]) := by rw [← hG]; simp (maxSteps := 1000000) (disch := first | exact sd | fail) only [go_sem, Nat.reduceAdd, Nat.reduceSub, Nat.reduceLeDiff, ↓reduceIte, decide_eq_true_eq, if_true, if_false, Bool.false_eq_true, Int.lt_irrefl, implies_true, true_and, and_true, eq_self, and_self, beq_self_eq_true]
    have gG2 : G.get (N + 1) = some (.row true 32 [.int .i64 3, .bool v.p.neg, Vv eU v.p.l, .bool v.q.neg, Vv eU v.q.l, Vv eQ X, Vv eQ Y, Vv eQ Z]) := by rw [← hG]; simp (maxSteps := 1000000) (disch := first | exact sd | fail) only [go_sem, Nat.reduceAdd, Nat.reduceSub, Nat.reduceLeDiff, ↓reduceIte, decide_eq_true_eq, if_true, if_false, Bool.false_eq_true, Int.lt_irrefl, implies_true, true_and, and_true, eq_self, and_self, beq_self_eq_true]
    clear hG
    refine aw_loopJ (σ := Nat) (fun s J => [J 0, J 1, .pointer (some ⟨N, 0, none⟩), .pointer (some ⟨N + 1, 0, none⟩), .bool false, J 5, J 6, J 7, J 8, J 9, J 10, J 11, J 12, J 13, J 14, J 15, Vv eQ T9, J 17, .int .i64 s, J 19, J 20, J 21, J 22, J 23, J 24, J 25, J 26, J 27, J 28, J 29, J 30, J 31, J 32, J 33, J 34, J 35, J 36, J 37, J 38, J 39, J 40, J 41, J 42, J 43, J 44, J 45, J 46, J 47, J 48, J 49, J 50, J 51, J 52, J 53, J 54, J 55, J 56, J 57, J 58, J 59, J 60, J 61, J 62, J 63, J 64, J 65, J 66, J 67, J 68, J 69, J 70, J 71, J 72, J 73, J 74, J 75, J 76, J 77, J 78, J 79, J 80, J 81, J 82, J 83, J 84, J 85, J 86, J 87, J 88, J 89, J 90, J 91, J 92, J 93, J 94, J 95, J 96, J 97, J 98, J 99, J 100, J 101, J 102, J 103, J 104, J 105, J 106, J 107, J 108, J 109, J 110, J 111, J 112, J 113, J 114, J 115, J 116, J 117, J 118, J 119, J 120, J 121, J 122, J 123, J 124, J 125, J 126, J 127, J 128, J 129, J 130, J 131, J 132, J 133, J 134, J 135, J 136, J 137, J 138, J 139, J 140, J 141, J 142, J 143, J 144, J 145, J 146, J 147, J 148, J 149, J 150, J 151, J 152, J 153, J 154, J 155, J 156, J 157, J 158, J 159, J 160, J 161, J 162, J 163, J 164, J 165, J 166, J 167, J 168, J 169, J 170, J 171, J 172, J 173, J 174, J 175, J 176, J 177, J 178, J 179, J 180, J 181, J 182, J 183, J 184, J 185, J 186, J 187, J 188, J 189, J 190, J 191, J 192, J 193]) (fun m s H1 => m = T9.length - s ∧ s ≤ T9.length ∧ H1.get N = some (.row true 25 [.int .i64 n, Vv eR A, Vv eQ B, Vv eQ C]) ∧ H1.get (N + 1) = some (.row true 32 [.int .i64 3, .bool v.p.neg, Vv eU v.p.l, .bool v.q.neg, Vv eU v.q.l, Vv eQ X, Vv eQ Y, Vv eQ Z]) ∧ ∀ i, i < s → dotV (rwi A i) Z ≤ 0) T9.length 0 rfl ⟨rfl, Nat.zero_le _, gG, gG2, fun i hi => by omega⟩ ?_
    clear gG gG2
    rintro m s J H1 ⟨rfl, hs2, gG, gG2, hall⟩
    by_cases h10 : (s : Int) < T9.length
    · have q9 := p287v (hw2.getD s)
      change PC Tryz.prog 21 _ (.int .i64 (cq (ev T9 s) 0)) at q9
      have hsA : s < A.length := by omega
      rw [he s hsA] at q9
      by_cases h11 : 0 < cq (dotV (rwi A s) Z) 0
      · simp (maxSteps := 1000000) (disch := first | exact sd | fail) only [go_sem, Nat.reduceAdd, Nat.reduceSub, Nat.reduceLeDiff, ↓reduceIte, decide_eq_true_eq, if_true, if_false, Bool.false_eq_true, Int.lt_irrefl, implies_true, true_and, and_true, eq_self, and_self, beq_self_eq_true, h10, Int.toNat_natCast]
        refine (PC.peek q9 rfl .refl ?_)
        simp (maxSteps := 1000000) (disch := first | exact sd | fail) only [go_sem, Nat.reduceAdd, Nat.reduceSub, Nat.reduceLeDiff, ↓reduceIte, decide_eq_true_eq, if_true, if_false, Bool.false_eq_true, Int.lt_irrefl, implies_true, true_and, and_true, eq_self, and_self, beq_self_eq_true, h11]
        rw [belowV_row hsA (by rw [ev_noughts]; exact cq_pos.1 h11)]
        simp only [Bool.and_false, Bool.false_and]
        exact .rfl
      · simp (maxSteps := 1000000) (disch := first | exact sd | fail) only [go_sem, Nat.reduceAdd, Nat.reduceSub, Nat.reduceLeDiff, ↓reduceIte, decide_eq_true_eq, if_true, if_false, Bool.false_eq_true, Int.lt_irrefl, implies_true, true_and, and_true, eq_self, and_self, beq_self_eq_true, h10, Int.toNat_natCast]
        refine (PC.peek q9 rfl .refl ?_)
        simp (maxSteps := 1000000) (disch := first | exact sd | fail) only [go_sem, Nat.reduceAdd, Nat.reduceSub, Nat.reduceLeDiff, ↓reduceIte, decide_eq_true_eq, if_true, if_false, Bool.false_eq_true, Int.lt_irrefl, implies_true, true_and, and_true, eq_self, and_self, beq_self_eq_true, h11]
        refine IJ_intro (k := T9.length - (s + 1)) (by omega) (s + 1) rfl ⟨rfl, by omega, gG, gG2, fun i hi => ?_⟩
        rcases Nat.lt_or_ge i s with h12 | h12
        · exact hall i h12
        · have : i = s := by omega
          subst this; exact Rat.not_lt.1 fun h => h11 (cq_pos.2 h)
    · have hsm : belowV A Z (List.replicate A.length eQ.d) = true := belowV_iff.2 ⟨hk, fun i hi => by rw [ev_noughts]; exact hall i (by omega)⟩
      rw [hsm]
      simp (maxSteps := 1000000) (disch := first | exact sd | fail) only [go_sem, Nat.reduceAdd, Nat.reduceSub, Nat.reduceLeDiff, ↓reduceIte, decide_eq_true_eq, if_true, if_false, Bool.false_eq_true, Int.lt_irrefl, implies_true, true_and, and_true, eq_self, and_self, beq_self_eq_true, h10, gG, gG2]
      refine PC.step (q5) fun m5 j5 => ?_
      try simp only [Heap.next_push, Heap.next_set, Heap.next_kill, next_bump, next_E0] at j5
      simp (maxSteps := 1000000) (disch := first | exact sd | fail) only [go_sem, Nat.reduceAdd, Nat.reduceSub, Nat.reduceLeDiff, ↓reduceIte, decide_eq_true_eq, if_true, if_false, Bool.false_eq_true, Int.lt_irrefl, implies_true, true_and, and_true, eq_self, and_self, beq_self_eq_true]
      refine PC.step (q6) fun m6 j6 => ?_
      try simp only [Heap.next_push, Heap.next_set, Heap.next_kill, next_bump, next_E0] at j6
      simp (maxSteps := 1000000) (disch := first | exact sd | fail) only [go_sem, Nat.reduceAdd, Nat.reduceSub, Nat.reduceLeDiff, ↓reduceIte, decide_eq_true_eq, if_true, if_false, Bool.false_eq_true, Int.lt_irrefl, implies_true, true_and, and_true, eq_self, and_self, beq_self_eq_true]
      simp only [Bool.true_and]
      exact .rfl
  rw [if_neg k3]
  refine ACalls.of_code T.hm (n := 192) Tryz.func7 rfl rfl rfl rfl ?_; simp only [List.replicate_succ, List.replicate_zero, List.cons_append, List.nil_append]
  simp (maxSteps := 1000000) (disch := first | exact sd | fail) only [go_sem, Nat.reduceAdd, Nat.reduceSub, Nat.reduceLeDiff, ↓reduceIte, decide_eq_true_eq, if_true, if_false, Bool.false_eq_true, Int.lt_irrefl, implies_true, true_and, and_true, eq_self, and_self, beq_self_eq_true]
  refine PC.step (q1) fun m1 j1 => ?_
  try simp only [Heap.next_push, Heap.next_set, Heap.next_kill, next_bump, next_E0] at j1
  simp (maxSteps := 1000000) (disch := first | exact sd | fail) only [go_sem, Nat.reduceAdd, Nat.reduceSub, Nat.reduceLeDiff, ↓reduceIte, decide_eq_true_eq, if_true, if_false, Bool.false_eq_true, Int.lt_irrefl, implies_true, true_and, and_true, eq_self, and_self, beq_self_eq_true, k1, k2, k3]
  exact .rfl
end Go.Abs
