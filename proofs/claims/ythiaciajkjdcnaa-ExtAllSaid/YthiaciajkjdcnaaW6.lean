/- What laws on quotients with two ends call. -/
import Derived.Test.YthiaciajkjdcnaaW5
import Derived.Test.YthiaciajkjdcnaaV6
import Derived.Test.YthiaciajkjdcnaaA31
set_option linter.unusedVariables false
set_option linter.unusedSimpArgs false
namespace Go.Abs
open Go Go.Proofs
set_option maxRecDepth 100000
set_option maxHeartbeats 4000000
def vx (a : RX) : XR := dx a.kind a.v.p.neg a.v.p.l a.v.q.neg a.v.q.l
theorem vx_xv (e : XR) : vx (xv e) = e := by
  rcases e with _ | x | _
  · rfl
  · show dx 0 (sgn x.num) (lmb x.num) (sgn x.den) (lmb x.den) = _
    unfold dx mayX
    rw [if_pos rfl, if_pos (mayQ_q x), if_pos rfl, dq_q]
  · rfl
/-- Not too large. -/
def Rx (K : Nat) (a : RX) : Prop := Lim a.v.p.l ∧ Lim a.v.q.l ∧ a.v.p.l.length ≤ K ∧ a.v.q.l.length ≤ K
theorem Rx.p {K : Nat} {a : RX} (h : Rx K a) (hK : K ≤ 2 ^ 37) : Lr a.v.p.l := ⟨h.1, by have := h.2.2.1; omega⟩
theorem Rx.q {K : Nat} {a : RX} (h : Rx K a) (hK : K ≤ 2 ^ 37) : Lr a.v.q.l := ⟨h.2.1, by have := h.2.2.2; omega⟩
theorem Rx.xv {e : XR} {K : Nat} (h : lx e ≤ K) : Rx K (xv e) := by
  rcases e with _ | x | _
  · exact ⟨Lim.nil, Lim.nil, Nat.zero_le _, Nat.zero_le _⟩
  · exact ⟨lim_z _, lim_z _, lqn h, lqd h⟩
  · exact ⟨Lim.nil, Lim.nil, Nat.zero_le _, Nat.zero_le _⟩
theorem lx_vx {K : Nat} {a : RX} (h : Rx K a) (hK : 1 ≤ K) : lx (vx a) ≤ K := by
  have h3 := lq_dq (pn := a.v.p.neg) (qn := a.v.q.neg) h.1 h.2.1
  have h4 := h.2.2
  unfold vx dx lx
  split
  · split
    · show lq (dq _ _ _ _) ≤ _; omega
    · split
      · show lq 0 ≤ _; rw [lq_zero]; exact hK
      · show lq 0 ≤ _; rw [lq_zero]; exact hK
  · show lq 0 ≤ _; rw [lq_zero]; exact hK
variable {a b : RX} {K : Nat}
theorem p102v (ha : Rx (2 ^ 30) a) (hb : Rx (2 ^ 30) b) : PC Try.prog 14 [.agg ⟨eX.enc a⟩, .agg ⟨eX.enc b⟩] (.int .i64 (cx (vx a) (vx b))) :=
  p102 (k := a.kind) (k' := b.kind) (pn := a.v.p.neg) (qn := a.v.q.neg) (pn' := b.v.p.neg) (qn' := b.v.q.neg) (ha.p (by decide)) (ha.q (by decide)) (hb.p (by decide)) (hb.q (by decide))
theorem p109v (ha : Rx (2 ^ 30) a) (hb : Rx (2 ^ 30) b) : PC Try.prog 22 [.agg ⟨eX.enc a⟩, .agg ⟨eX.enc b⟩] (.int .i64 (cx (vx a) (vx b))) :=
  p109 (k := a.kind) (k' := b.kind) (pn := a.v.p.neg) (qn := a.v.q.neg) (pn' := b.v.p.neg) (qn' := b.v.q.neg) (ha.p (by decide)) (ha.q (by decide)) (hb.p (by decide)) (hb.q (by decide))
theorem p103v (ha : Rx (2 ^ 30) a) (hb : Rx (2 ^ 30) b) : PC Try.prog 15 [.agg ⟨eX.enc a⟩, .agg ⟨eX.enc b⟩] (Xn (mxX (vx a) (vx b))) :=
  p103 (k := a.kind) (k' := b.kind) (pn := a.v.p.neg) (qn := a.v.q.neg) (pn' := b.v.p.neg) (qn' := b.v.q.neg) (ha.p (by decide)) (ha.q (by decide)) (hb.p (by decide)) (hb.q (by decide))
theorem p110v (ha : Rx (2 ^ 30) a) (hb : Rx (2 ^ 30) b) : PC Try.prog 23 [.agg ⟨eX.enc a⟩, .agg ⟨eX.enc b⟩] (Xn (mxX (vx a) (vx b))) :=
  p110 (k := a.kind) (k' := b.kind) (pn := a.v.p.neg) (qn := a.v.q.neg) (pn' := b.v.p.neg) (qn' := b.v.q.neg) (ha.p (by decide)) (ha.q (by decide)) (hb.p (by decide)) (hb.q (by decide))
theorem p104v (ha : Rx (2 ^ 30) a) (hb : Rx (2 ^ 30) b) : PC Try.prog 16 [.agg ⟨eX.enc a⟩, .agg ⟨eX.enc b⟩] (Xn (mnX (vx a) (vx b))) :=
  p104 (k := a.kind) (k' := b.kind) (pn := a.v.p.neg) (qn := a.v.q.neg) (pn' := b.v.p.neg) (qn' := b.v.q.neg) (ha.p (by decide)) (ha.q (by decide)) (hb.p (by decide)) (hb.q (by decide))
theorem p111v (ha : Rx (2 ^ 30) a) (hb : Rx (2 ^ 30) b) : PC Try.prog 24 [.agg ⟨eX.enc a⟩, .agg ⟨eX.enc b⟩] (Xn (mnX (vx a) (vx b))) :=
  p111 (k := a.kind) (k' := b.kind) (pn := a.v.p.neg) (qn := a.v.q.neg) (pn' := b.v.p.neg) (qn' := b.v.q.neg) (ha.p (by decide)) (ha.q (by decide)) (hb.p (by decide)) (hb.q (by decide))
theorem p107v (ha : Rx (2 ^ 30) a) : PC Try.prog 20 [.agg ⟨eX.enc a⟩] (.bool (mayX a.kind a.v.p.neg a.v.p.l a.v.q.neg a.v.q.l)) :=
  p107 (k := a.kind) (pn := a.v.p.neg) (qn := a.v.q.neg) (ha.p (by decide)).lb (ha.q (by decide)).lb (by have := ha.2.2.1; omega) (by have := ha.2.2.2; omega)
theorem p108v (ha : Rx (2 ^ 30) a) : PC Try.prog 21 [.agg ⟨eX.enc a⟩] (.bool (mayX a.kind a.v.p.neg a.v.p.l a.v.q.neg a.v.q.l)) :=
  p108 (k := a.kind) (pn := a.v.p.neg) (qn := a.v.q.neg) (ha.p (by decide)).lb (ha.q (by decide)).lb (by have := ha.2.2.1; omega) (by have := ha.2.2.2; omega)
theorem p106v {c : RQ} (ha : Rx (2 ^ 30) a) (hc : Rz c) : PC Try.prog 19 [.agg ⟨eX.enc a⟩, .agg ⟨eQ.enc c⟩] (Xn (adX (vx a) (vq c))) :=
  p106 (k := a.kind) (pn := a.v.p.neg) (qn := a.v.q.neg) (pn' := c.p.neg) (qn' := c.q.neg) (ha.p (by decide)) (ha.q (by decide)) hc.lp hc.lq' (by
    have h1 := lx_vx ha (by decide)
    have h2 := hc.le
    show lx (vx a) + lq (vq c) + 1 ≤ _; omega)
theorem p112v {c : RQ} (ha : Rx (2 ^ 30) a) (hc : Rz c) : PC Try.prog 25 [.agg ⟨eX.enc a⟩, .agg ⟨eQ.enc c⟩] (Xn (adX (vx a) (vq c))) :=
  p112 (k := a.kind) (pn := a.v.p.neg) (qn := a.v.q.neg) (pn' := c.p.neg) (qn' := c.q.neg) (ha.p (by decide)) (ha.q (by decide)) hc.lp hc.lq'
theorem p114v {c : RQ} (hc : Rz c) : PC Try.prog 27 [.agg ⟨eQ.enc c⟩] (Xn (.fin (vq c))) := s114 (pn := c.p.neg) (qn := c.q.neg) hc.lp hc.lq'
/-! ### texts -/
theorem p101v (ha : Rx (2 ^ 20) a) : PC Try.prog 13 [.agg ⟨eX.enc a⟩] (.string (bsOf (txtX (vx a)))) := by
  refine PC.of (.cons pu_x5 .nil) (.ground rfl) fun N hN => ?_
  have q1 := p176 (k := a.kind) (pn := a.v.p.neg) (qn := a.v.q.neg) (ha.p (by decide)) (ha.q (by decide))
  have hl := lx_vx ha (by decide)
  change PC Try.prog 42 _ (Xn (vx a)) at q1
  generalize vx a = e at *
  rcases e with _ | x | _
  · refine ACalls.of_code T.hm (n := 13) Try.func13 rfl rfl rfl rfl ?_; simp only [List.replicate_succ, List.replicate_zero, List.cons_append, List.nil_append]
    simp (maxSteps := 1000000) (disch := first | exact sd | fail) only [go_sem, Nat.reduceAdd, Nat.reduceSub, Nat.reduceLeDiff, ↓reduceIte, decide_eq_true_eq, if_true, if_false, Bool.false_eq_true, Int.lt_irrefl, implies_true, true_and, and_true, eq_self, and_self, beq_self_eq_true]
    refine PC.step (q1) fun m1 j1 => ?_
    try simp only [Heap.next_push, Heap.next_set, Heap.next_kill, next_bump, next_E0] at j1
    simp (maxSteps := 1000000) (disch := first | exact sd | fail) only [go_sem, Nat.reduceAdd, Nat.reduceSub, Nat.reduceLeDiff, ↓reduceIte, decide_eq_true_eq, if_true, if_false, Bool.false_eq_true, Int.lt_irrefl, implies_true, true_and, and_true, eq_self, and_self, beq_self_eq_true, show ¬ (-1 : Int) = 1 by decide, show (-1 : Int) < 0 by decide]
    exact .rfl
  · have hl : lq x ≤ 2 ^ 20 := hl
    have q2 := p81 (pn := sgn x.num) (pl := lmb x.num) (qn := sgn x.den) (ql := lmb x.den) (Lr.z (lqn (K := 2 ^ 37) (by omega))) (Lr.z (lqd (K := 2 ^ 37) (by omega))) (by rw [dq_q]; exact hl)
    rw [dq_q] at q2
    refine ACalls.of_code T.hm (n := 13) Try.func13 rfl rfl rfl rfl ?_; simp only [List.replicate_succ, List.replicate_zero, List.cons_append, List.nil_append]
    simp (maxSteps := 1000000) (disch := first | exact sd | fail) only [go_sem, Nat.reduceAdd, Nat.reduceSub, Nat.reduceLeDiff, ↓reduceIte, decide_eq_true_eq, if_true, if_false, Bool.false_eq_true, Int.lt_irrefl, implies_true, true_and, and_true, eq_self, and_self, beq_self_eq_true]
    refine PC.step (q1) fun m1 j1 => ?_
    try simp only [Heap.next_push, Heap.next_set, Heap.next_kill, next_bump, next_E0] at j1
    simp (maxSteps := 1000000) (disch := first | exact sd | fail) only [go_sem, Nat.reduceAdd, Nat.reduceSub, Nat.reduceLeDiff, ↓reduceIte, decide_eq_true_eq, if_true, if_false, Bool.false_eq_true, Int.lt_irrefl, implies_true, true_and, and_true, eq_self, and_self, beq_self_eq_true, show ¬ (0 : Int) = -1 by decide, show ¬ (0 : Int) = 1 by decide, show ¬ (0 : Int) < 0 by decide]
    refine PC.step (q2) fun m2 j2 => ?_
    try simp only [Heap.next_push, Heap.next_set, Heap.next_kill, next_bump, next_E0] at j2
    simp (maxSteps := 1000000) (disch := first | exact sd | fail) only [go_sem, Nat.reduceAdd, Nat.reduceSub, Nat.reduceLeDiff, ↓reduceIte, decide_eq_true_eq, if_true, if_false, Bool.false_eq_true, Int.lt_irrefl, implies_true, true_and, and_true, eq_self, and_self, beq_self_eq_true]
    exact .rfl
  · refine ACalls.of_code T.hm (n := 13) Try.func13 rfl rfl rfl rfl ?_; simp only [List.replicate_succ, List.replicate_zero, List.cons_append, List.nil_append]
    simp (maxSteps := 1000000) (disch := first | exact sd | fail) only [go_sem, Nat.reduceAdd, Nat.reduceSub, Nat.reduceLeDiff, ↓reduceIte, decide_eq_true_eq, if_true, if_false, Bool.false_eq_true, Int.lt_irrefl, implies_true, true_and, and_true, eq_self, and_self, beq_self_eq_true]
    refine PC.step (q1) fun m1 j1 => ?_
    try simp only [Heap.next_push, Heap.next_set, Heap.next_kill, next_bump, next_E0] at j1
    simp (maxSteps := 1000000) (disch := first | exact sd | fail) only [go_sem, Nat.reduceAdd, Nat.reduceSub, Nat.reduceLeDiff, ↓reduceIte, decide_eq_true_eq, if_true, if_false, Bool.false_eq_true, Int.lt_irrefl, implies_true, true_and, and_true, eq_self, and_self, beq_self_eq_true, show ¬ (1 : Int) = -1 by decide, show ¬ (1 : Int) < 0 by decide, show (0 : Int) < 1 by decide]
    exact .rfl
theorem p113v (ha : Rx (2 ^ 20) a) : PC Try.prog 26 [.agg ⟨eX.enc a⟩] (.string (bsOf (txtX (vx a)))) := by
  refine PC.of (.cons pu_x5 .nil) (.ground rfl) fun N hN => ?_
  have q1 := p183 (k := a.kind) (pn := a.v.p.neg) (qn := a.v.q.neg) (ha.p (by decide)) (ha.q (by decide))
  have hl := lx_vx ha (by decide)
  change PC Try.prog 54 _ (Xn (vx a)) at q1
  generalize vx a = e at *
  rcases e with _ | x | _
  · refine ACalls.of_code T.hm (n := 13) Try.func26 rfl rfl rfl rfl ?_; simp only [List.replicate_succ, List.replicate_zero, List.cons_append, List.nil_append]
    simp (maxSteps := 1000000) (disch := first | exact sd | fail) only [go_sem, Nat.reduceAdd, Nat.reduceSub, Nat.reduceLeDiff, ↓reduceIte, decide_eq_true_eq, if_true, if_false, Bool.false_eq_true, Int.lt_irrefl, implies_true, true_and, and_true, eq_self, and_self, beq_self_eq_true]
    refine PC.step (q1) fun m1 j1 => ?_
    try simp only [Heap.next_push, Heap.next_set, Heap.next_kill, next_bump, next_E0] at j1
    simp (maxSteps := 1000000) (disch := first | exact sd | fail) only [go_sem, Nat.reduceAdd, Nat.reduceSub, Nat.reduceLeDiff, ↓reduceIte, decide_eq_true_eq, if_true, if_false, Bool.false_eq_true, Int.lt_irrefl, implies_true, true_and, and_true, eq_self, and_self, beq_self_eq_true, show ¬ (-1 : Int) = 1 by decide, show (-1 : Int) < 0 by decide]
    exact .rfl
  · have hl : lq x ≤ 2 ^ 20 := hl
    have q2 := p82 (pn := sgn x.num) (pl := lmb x.num) (qn := sgn x.den) (ql := lmb x.den) (Lr.z (lqn (K := 2 ^ 37) (by omega))) (Lr.z (lqd (K := 2 ^ 37) (by omega))) (by rw [dq_q]; exact hl)
    rw [dq_q] at q2
    refine ACalls.of_code T.hm (n := 13) Try.func26 rfl rfl rfl rfl ?_; simp only [List.replicate_succ, List.replicate_zero, List.cons_append, List.nil_append]
    simp (maxSteps := 1000000) (disch := first | exact sd | fail) only [go_sem, Nat.reduceAdd, Nat.reduceSub, Nat.reduceLeDiff, ↓reduceIte, decide_eq_true_eq, if_true, if_false, Bool.false_eq_true, Int.lt_irrefl, implies_true, true_and, and_true, eq_self, and_self, beq_self_eq_true]
    refine PC.step (q1) fun m1 j1 => ?_
    try simp only [Heap.next_push, Heap.next_set, Heap.next_kill, next_bump, next_E0] at j1
    simp (maxSteps := 1000000) (disch := first | exact sd | fail) only [go_sem, Nat.reduceAdd, Nat.reduceSub, Nat.reduceLeDiff, ↓reduceIte, decide_eq_true_eq, if_true, if_false, Bool.false_eq_true, Int.lt_irrefl, implies_true, true_and, and_true, eq_self, and_self, beq_self_eq_true, show ¬ (0 : Int) = -1 by decide, show ¬ (0 : Int) = 1 by decide, show ¬ (0 : Int) < 0 by decide]
    refine PC.step (q2) fun m2 j2 => ?_
    try simp only [Heap.next_push, Heap.next_set, Heap.next_kill, next_bump, next_E0] at j2
    simp (maxSteps := 1000000) (disch := first | exact sd | fail) only [go_sem, Nat.reduceAdd, Nat.reduceSub, Nat.reduceLeDiff, ↓reduceIte, decide_eq_true_eq, if_true, if_false, Bool.false_eq_true, Int.lt_irrefl, implies_true, true_and, and_true, eq_self, and_self, beq_self_eq_true]
    exact .rfl
  · refine ACalls.of_code T.hm (n := 13) Try.func26 rfl rfl rfl rfl ?_; simp only [List.replicate_succ, List.replicate_zero, List.cons_append, List.nil_append]
    simp (maxSteps := 1000000) (disch := first | exact sd | fail) only [go_sem, Nat.reduceAdd, Nat.reduceSub, Nat.reduceLeDiff, ↓reduceIte, decide_eq_true_eq, if_true, if_false, Bool.false_eq_true, Int.lt_irrefl, implies_true, true_and, and_true, eq_self, and_self, beq_self_eq_true]
    refine PC.step (q1) fun m1 j1 => ?_
    try simp only [Heap.next_push, Heap.next_set, Heap.next_kill, next_bump, next_E0] at j1
    simp (maxSteps := 1000000) (disch := first | exact sd | fail) only [go_sem, Nat.reduceAdd, Nat.reduceSub, Nat.reduceLeDiff, ↓reduceIte, decide_eq_true_eq, if_true, if_false, Bool.false_eq_true, Int.lt_irrefl, implies_true, true_and, and_true, eq_self, and_self, beq_self_eq_true, show ¬ (1 : Int) = -1 by decide, show ¬ (1 : Int) < 0 by decide, show (0 : Int) < 1 by decide]
    exact .rfl
/-! ### great, awake -/
theorem pu_Xs {l : List RX} : Pu (Vv eX l) := .fz (Pus.flat fun _ _ => .cons (.ground rfl) (.cons (.ground rfl) (.cons pu_U (.cons (.ground rfl) (.cons pu_U .nil)))))
theorem rows2_5 {z a b c d e a1 b1 c1 d1 e1 : Value} : rFill 5 z 2 [(0, .agg ⟨[a, b, c, d, e]⟩), (1, .agg ⟨[a1, b1, c1, d1, e1]⟩)] = some [a, b, c, d, e, a1, b1, c1, d1, e1] := rFill2 rfl rfl
theorem rows3_5 {z a b c d e a1 b1 c1 d1 e1 a2 b2 c2 d2 e2 : Value} : rFill 5 z 3 [(0, .agg ⟨[a, b, c, d, e]⟩), (1, .agg ⟨[a1, b1, c1, d1, e1]⟩), (2, .agg ⟨[a2, b2, c2, d2, e2]⟩)] = some [a, b, c, d, e, a1, b1, c1, d1, e1, a2, b2, c2, d2, e2] := rFill3 rfl rfl rfl
attribute [go_sem] rows2_5 rows3_5
def gx (a : RX) : Bool := gq a.v
theorem p99 {ls : List RX} (hb : ls.length ≤ 9223372036854775807) : PC Try.prog 11 [Vv eX ls] (.bool (ls.any gx)) := by
  refine PC.of (.cons pu_Xs .nil) (.ground rfl) fun N hN => ?_
  refine ACalls.of_code T.hm (n := 16) Try.func11 rfl rfl rfl rfl ?_; simp only [List.replicate_succ, List.replicate_zero, List.cons_append, List.nil_append]
  simp (maxSteps := 1000000) (disch := first | exact sd | fail) only [go_sem, Nat.reduceAdd, Nat.reduceSub, Nat.reduceLeDiff, ↓reduceIte, decide_eq_true_eq, if_true, if_false, Bool.false_eq_true, Int.lt_irrefl, implies_true, true_and, and_true, eq_self, and_self, beq_self_eq_true]
  refine aw_loopJ (σ := Nat) (fun k J => [Vv eX ls, J 1, .bool false, .int .i64 k, J 4, J 5, J 6, J 7, J 8, J 9, J 10, J 11, J 12, J 13, J 14, J 15, J 16]) (fun m k H1 => m = ls.length - k ∧ k ≤ ls.length ∧ ∀ i, i < k → ∀ p, ls[i]? = some p → gx p = false) ls.length 0 rfl ⟨rfl, Nat.zero_le _, fun i hi => by omega⟩ ?_
  rintro m k J H1 ⟨rfl, hk, hall⟩
  by_cases h4 : (k : Int) < ls.length
  · have hk' : k < ls.length := by omega
    have eg : ls.getD k eX.d = ls[k] := by rw [List.getD_eq_getElem?_getD, List.getElem?_eq_getElem hk']; rfl
    simp (maxSteps := 1000000) (disch := first | exact sd | fail) only [go_sem, Nat.reduceAdd, Nat.reduceSub, Nat.reduceLeDiff, ↓reduceIte, decide_eq_true_eq, if_true, if_false, Bool.false_eq_true, Int.lt_irrefl, implies_true, true_and, and_true, eq_self, and_self, beq_self_eq_true, h4, Int.toNat_natCast, eg]
    refine s69 (pn := ls[k].v.p.neg) (pl := ls[k].v.p.l) (qn := ls[k].v.q.neg) (ql := ls[k].v.q.l) (by simp (maxSteps := 1000000) (disch := first | exact sd | fail) only [go_sem, Nat.reduceAdd, Nat.reduceSub, Nat.reduceLeDiff, ↓reduceIte, decide_eq_true_eq, if_true, if_false, Bool.false_eq_true, Int.lt_irrefl, implies_true, true_and, and_true, eq_self, and_self, beq_self_eq_true]) (by simp (maxSteps := 1000000) (disch := first | exact sd | fail) only [go_sem, Nat.reduceAdd, Nat.reduceSub, Nat.reduceLeDiff, ↓reduceIte, decide_eq_true_eq, if_true, if_false, Bool.false_eq_true, Int.lt_irrefl, implies_true, true_and, and_true, eq_self, and_self, beq_self_eq_true]; omega) ?_
    cases hg : gx ls[k] with
    | true =>
      have hg' : gq ⟨⟨ls[k].v.p.neg, ls[k].v.p.l⟩, ⟨ls[k].v.q.neg, ls[k].v.q.l⟩⟩ = true := hg
      rw [hg']
      simp (maxSteps := 1000000) (disch := first | exact sd | fail) only [go_sem, Nat.reduceAdd, Nat.reduceSub, Nat.reduceLeDiff, ↓reduceIte, decide_eq_true_eq, if_true, if_false, Bool.false_eq_true, Int.lt_irrefl, implies_true, true_and, and_true, eq_self, and_self, beq_self_eq_true]
      have : (ls.any gx) = true := by
        rw [List.any_eq_true]
        exact ⟨ls[k], List.getElem_mem hk', hg⟩
      rw [this]
      exact .rfl
    | false =>
      have hg' : gq ⟨⟨ls[k].v.p.neg, ls[k].v.p.l⟩, ⟨ls[k].v.q.neg, ls[k].v.q.l⟩⟩ = false := hg
      rw [hg']
      simp (maxSteps := 1000000) (disch := first | exact sd | fail) only [go_sem, Nat.reduceAdd, Nat.reduceSub, Nat.reduceLeDiff, ↓reduceIte, decide_eq_true_eq, if_true, if_false, Bool.false_eq_true, Int.lt_irrefl, implies_true, true_and, and_true, eq_self, and_self, beq_self_eq_true]
      refine IJ_intro (k := ls.length - (k + 1)) (by omega) (k + 1) rfl ⟨rfl, by omega, fun i hi p hp => ?_⟩
      by_cases h6 : i = k
      · subst h6
        rw [List.getElem?_eq_getElem hk'] at hp
        injection hp with hp; subst hp
        exact hg
      · exact hall i (by omega) p hp
  · simp (maxSteps := 1000000) (disch := first | exact sd | fail) only [go_sem, Nat.reduceAdd, Nat.reduceSub, Nat.reduceLeDiff, ↓reduceIte, decide_eq_true_eq, if_true, if_false, Bool.false_eq_true, Int.lt_irrefl, implies_true, true_and, and_true, eq_self, and_self, beq_self_eq_true, h4]
    have : (ls.any gx) = false := by
      rw [List.any_eq_false]
      intro p hp
      obtain ⟨i, hi, rfl⟩ := List.getElem_of_mem hp
      have := hall i (by omega) _ (List.getElem?_eq_getElem hi)
      simp [this]
    rw [this]
    exact .rfl
theorem s99 {H : Heap} {K : Value → Heap → Prop} {ls : List RX} {b n : Nat} {cells : List Value} (hg : H.get b = some (.row true 28 cells)) (hb : b < H.next) (hc : cells = ls.flatMap eX.enc) (hn : n = ls.length) (hl : ls.length ≤ 2 ^ 30) (k : K (.bool (ls.any gx)) H) : ACalls Try.prog 11 [.slice (some ⟨b, 0, none⟩) n n] H K := by
  subst hc hn
  exact PC.peek1 (es := 5) hg hb (.inr ⟨Nat.le_refl _, by unfold unk; omega⟩) (by decide) (.inr T.s93) (eX.flat_length ls) (p99 (by omega)) rfl k
def LimX (a : RX) : Prop := Lim a.v.p.l ∧ Lim a.v.q.l
theorem gx_rx {a : RX} (h : LimX a) (k : gx a = false) : Rx 6 a := by
  unfold gx gq at k
  simp at k
  exact ⟨h.1, h.2, by omega, by omega⟩
theorem Rx.mono {K K' : Nat} {a : RX} (h : Rx K a) (hK : K ≤ K') : Rx K' a := ⟨h.1, h.2.1, Nat.le_trans h.2.2.1 hK, Nat.le_trans h.2.2.2 hK⟩
variable {n : Nat} {p : Value}
theorem fgood_ext {cs : List Value} (h : FGood Try.prog (n + 5) 28 cs) : ∃ a : RX, cs = eX.enc a ∧ LimX a := by
  obtain ⟨h1, h2⟩ := h.struct Try.underlying28
  rw [T.s93] at h1
  have a1 := h2 _ (List.Mem.head _)
  have a2 := h2 _ (List.Mem.tail _ (List.Mem.head _))
  simp only [T.s3, T.s55, List.drop_zero] at a1 a2
  obtain ⟨kd, q1, _⟩ := a1.int Try.underlying3
  obtain ⟨r, q2, k1, k2⟩ := fgood_rat (n := n) a2
  refine ⟨⟨kd, r⟩, ?_, k1, k2⟩
  match cs, h1 with
  | [x, y, z, w, v], _ =>
    simp [eQ] at q1 q2
    rw [q1, q2.1, q2.2.1, q2.2.2.1, q2.2.2.2]
    rfl
theorem FArg.ext (h : FArg Try.prog (n + 5) 28 p) : ∃ a : RX, p = .agg ⟨eX.enc a⟩ ∧ LimX a := by
  obtain ⟨cs, rfl, h1⟩ := h.struct Try.underlying28
  obtain ⟨a, rfl, h2⟩ := fgood_ext h1
  exact ⟨a, rfl, h2⟩
theorem FArg.exts (h : FArg Try.prog (n + 6) 36 p) : ∃ l : List RX, p = Vv eX l ∧ l.length ≤ maxLen ∧ ∀ a ∈ l, LimX a := by
  obtain ⟨len, cells, h1, h2, h3, h4⟩ := (h.slice Try.underlying36).slice Try.underlying36
  rw [T.s93] at h3 h4
  obtain ⟨l, k1, k2, k3⟩ := row_of eX LimX (cells := cells) (k := len) h3 (by decide) (fun i hi => by
    obtain ⟨a, q1, q2⟩ := fgood_ext (n := n) (h4 i hi)
    exact ⟨a, q1, q2⟩)
  subst k1
  injection h1 with h1
  exact ⟨l, by rw [h1, k2]; rfl, h2, k3⟩
end Go.Abs
