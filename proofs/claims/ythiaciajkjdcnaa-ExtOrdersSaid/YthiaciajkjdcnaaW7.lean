/- The document's example of layer 3. -/
import Derived.Test.YthiaciajkjdcnaaW6
set_option linter.unusedVariables false
set_option linter.unusedSimpArgs false
namespace Go.Abs
open Go Go.Proofs
set_option maxRecDepth 100000
set_option maxHeartbeats 4000000
theorem gq_rzw {a : RQ} (h : LimQ a) (k : gq a = false) : Rz a ∧ lq (vq a) ≤ 6 := by
  have h3 := lq_dq (pn := a.p.neg) (qn := a.q.neg) h.1 h.2
  unfold gq at k
  simp at k
  exact ⟨⟨h.1, h.2, by omega, by omega⟩, by unfold vq; omega⟩
theorem txt_1 : txt 1 = [49] := by
  unfold txt
  rw [if_neg (by decide), if_neg (by decide), show Int.natAbs 1 = 1 from rfl, decL_pos (by decide), show 1 / 10 = 0 from rfl, decL_zero]; rfl
theorem txt_2 : txt 2 = [50] := by
  unfold txt
  rw [if_neg (by decide), if_neg (by decide), show Int.natAbs 2 = 2 from rfl, decL_pos (by decide), show 2 / 10 = 0 from rfl, decL_zero]; rfl
theorem half_txt : txtQ (Rat.divInt 1 2) = [49, 47, 50] := by
  have h1 : (Rat.divInt 1 2).num = 1 := by decide +kernel
  have h2 : (Rat.divInt 1 2).den = 2 := by decide +kernel
  unfold txtQ
  rw [h1, h2, if_neg (by decide), txt_1, show ((2 : Nat) : Int) = 2 from rfl, txt_2]; rfl
theorem vx_zero : vx ⟨0, eQ.d⟩ = .fin 0 := by
  show dx 0 false [] false [] = _
  unfold dx
  rw [show mayX 0 false [] false [] = true from rfl, if_pos rfl, if_pos rfl, dq_nought]
theorem p100 : PC Try.prog 12 [] (.bool true) := by
  refine PC.of .nil (.ground rfl) fun N hN => ?_
  have l1 := ln_one
  have l2 : ln (2 : Int) ≤ 1 := ln_small (by decide)
  have q3 := p72 (n := sgn 1) (l := lmb 1) (m := sgn 2) (k := lmb 2) (lb_z (by omega)) (lb_z (by omega)) (by rw [den_z]; omega) (by rw [den_z]; omega) (by rw [den_z]; decide)
  rw [den_z, den_z] at q3
  have lh : lq (Rat.divInt 1 2) ≤ 1 := lq_divInt (by decide) (by omega) l2
  have q4 := p103v (a := xv .lo) (b := xv (.fin (Rat.divInt 1 2))) (Rx.xv (by show lq 0 ≤ _; rw [lq_zero]; decide)) (Rx.xv (by show lq (Rat.divInt 1 2) ≤ _; omega))
  rw [vx_xv, vx_xv, show mxX .lo (.fin (Rat.divInt 1 2)) = .fin (Rat.divInt 1 2) from rfl] at q4
  have q5 := p101v (a := xv (.fin (Rat.divInt 1 2))) (Rx.xv (by show lq (Rat.divInt 1 2) ≤ _; omega))
  rw [vx_xv, show txtX (.fin (Rat.divInt 1 2)) = txtQ (Rat.divInt 1 2) from rfl, half_txt] at q5
  have q6 := p101v (a := xv .lo) (Rx.xv (by show lq 0 ≤ _; rw [lq_zero]; decide))
  rw [vx_xv] at q6
  have e1 : ((bsOf [49, 47, 50]).toList == (⟨#[49, 47, 50]⟩ : ByteArray).toList) = true := by rw [show bsOf [49, 47, 50] = ⟨#[49, 47, 50]⟩ from rfl]; exact beq_self_eq_true _
  have e2 : ((bsOf (txtX .lo)).toList == (⟨#[45, 105, 110, 102]⟩ : ByteArray).toList) = true := by rw [show bsOf (txtX .lo) = ⟨#[45, 105, 110, 102]⟩ from rfl]; exact beq_self_eq_true _
  refine ACalls.of_code T.hm (n := 27) Try.func12 rfl rfl rfl rfl ?_; simp only [List.replicate_succ, List.replicate_zero, List.cons_append, List.nil_append]
  simp (maxSteps := 1000000) (disch := first | exact sd | fail) only [go_sem, Nat.reduceAdd, Nat.reduceSub, Nat.reduceLeDiff, ↓reduceIte, decide_eq_true_eq, if_true, if_false, Bool.false_eq_true, Int.lt_irrefl, implies_true, true_and, and_true, eq_self, and_self, beq_self_eq_true]
  refine PC.step (p53 (x := 1) (by omega)) fun m1 j1 => ?_
  try simp only [Heap.next_push, Heap.next_set, Heap.next_kill, next_bump, next_E0] at j1
  simp (maxSteps := 1000000) (disch := first | exact sd | fail) only [go_sem, Nat.reduceAdd, Nat.reduceSub, Nat.reduceLeDiff, ↓reduceIte, decide_eq_true_eq, if_true, if_false, Bool.false_eq_true, Int.lt_irrefl, implies_true, true_and, and_true, eq_self, and_self, beq_self_eq_true]
  refine PC.step (p53 (x := 2) (by omega)) fun m2 j2 => ?_
  try simp only [Heap.next_push, Heap.next_set, Heap.next_kill, next_bump, next_E0] at j2
  simp (maxSteps := 1000000) (disch := first | exact sd | fail) only [go_sem, Nat.reduceAdd, Nat.reduceSub, Nat.reduceLeDiff, ↓reduceIte, decide_eq_true_eq, if_true, if_false, Bool.false_eq_true, Int.lt_irrefl, implies_true, true_and, and_true, eq_self, and_self, beq_self_eq_true]
  refine PC.step (q3) fun m3 j3 => ?_
  try simp only [Heap.next_push, Heap.next_set, Heap.next_kill, next_bump, next_E0] at j3
  generalize Rat.divInt 1 2 = h at *
  simp (maxSteps := 1000000) (disch := first | exact sd | fail) only [go_sem, Nat.reduceAdd, Nat.reduceSub, Nat.reduceLeDiff, ↓reduceIte, decide_eq_true_eq, if_true, if_false, Bool.false_eq_true, Int.lt_irrefl, implies_true, true_and, and_true, eq_self, and_self, beq_self_eq_true]
  refine ACalls.nz (ps := [Xn .lo, Xn (.fin h)]) (.cons (.agg (.cons .rfl (.cons .rfl (.cons .vnil (.cons .rfl (.cons .vnil .nil)))))) (.cons .rfl .nil)) ?_
  refine PC.step (q4) fun m4 j4 => ?_
  try simp only [Heap.next_push, Heap.next_set, Heap.next_kill, next_bump, next_E0] at j4
  simp (maxSteps := 1000000) (disch := first | exact sd | fail) only [go_sem, Nat.reduceAdd, Nat.reduceSub, Nat.reduceLeDiff, ↓reduceIte, decide_eq_true_eq, if_true, if_false, Bool.false_eq_true, Int.lt_irrefl, implies_true, true_and, and_true, eq_self, and_self, beq_self_eq_true]
  refine PC.step (q5) fun m5 j5 => ?_
  try simp only [Heap.next_push, Heap.next_set, Heap.next_kill, next_bump, next_E0] at j5
  simp (maxSteps := 1000000) (disch := first | exact sd | fail) only [go_sem, Nat.reduceAdd, Nat.reduceSub, Nat.reduceLeDiff, ↓reduceIte, decide_eq_true_eq, if_true, if_false, Bool.false_eq_true, Int.lt_irrefl, implies_true, true_and, and_true, eq_self, and_self, beq_self_eq_true, e1]
  refine ACalls.nz (ps := [Xn .lo]) (.cons (.agg (.cons .rfl (.cons .rfl (.cons .vnil (.cons .rfl (.cons .vnil .nil)))))) .nil) ?_
  refine PC.step (q6) fun m6 j6 => ?_
  try simp only [Heap.next_push, Heap.next_set, Heap.next_kill, next_bump, next_E0] at j6
  simp (maxSteps := 1000000) (disch := first | exact sd | fail) only [go_sem, Nat.reduceAdd, Nat.reduceSub, Nat.reduceLeDiff, ↓reduceIte, decide_eq_true_eq, if_true, if_false, Bool.false_eq_true, Int.lt_irrefl, implies_true, true_and, and_true, eq_self, and_self, beq_self_eq_true, e2]
  exact .rfl
end Go.Abs
