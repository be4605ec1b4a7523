/- Whether a quotient may be: the document's. -/
import Derived.Test.YtboekagofficpaaVa
set_option linter.unusedVariables false
set_option linter.unusedSimpArgs false
namespace Go.Abs
open Go Go.Proofs
set_option maxRecDepth 100000
set_option maxHeartbeats 4000000
variable {n m pn qn pn' qn' : Bool} {l k pl ql pl' ql' : List Int} {H : Heap} {K : Value → Heap → Prop}

theorem may_lU (hl : Lim l) (h : mayB n l = true) : lmb (den n l) = l := by
  have := nz_limbs (ng := n) hl
  unfold nzL at this
  rw [if_pos h] at this
  exact this.symm
theorem den_zero_iffU (hl : Lim l) (h : mayB n l = true) : den n l = 0 ↔ l.length = 0 := by
  have h1 := may_lU hl h
  have h2 : ln (den n l) = l.length := by rw [← len_z, h1]
  rw [← h2, ln_eq_zero]
theorem lmb_oneU : lmb 1 = [1] := by
  have h := val_z 1
  have h2 := len_z 1
  rw [ln_one] at h2
  match lmb 1, h, h2 with
  | [d], h, _ => rw [val_one] at h; rw [h]; rfl
theorem lmb_is1U {g : Nat} (h1 : ln (g : Int) = 1) (h2 : (lmb g).getD 0 0 = 1) : g = 1 := by
  have h := val_z g
  have h3 := len_z (g : Int)
  rw [h1] at h3
  match lmb g, h, h3, h2 with
  | [d], h, _, h2 =>
    rw [val_one] at h
    simp at h2 h
    omega
theorem p74U (h1 : Lb pl) (h2 : Lb ql) (k1 : pl.length ≤ 2 ^ 39) (k2 : ql.length ≤ 2 ^ 39) : PC Try.prog 38 [R4 pn pl qn ql] (.bool (mayQ pn pl qn ql)) := by
  refine PC.of (.cons pu_r4 .nil) (.ground rfl) fun N hN => ?_
  have bA := ln_den (n := pn) h1.1
  have bB := ln_den (n := qn) h2.1
  have q4 := p47 (n := pn) (m := qn) h1 h2 (by omega) (by omega)
  have q1 := p52 (n := pn) h1
  have q2 := p52 (n := qn) h2
  have dz := den_zero_iffU (n := qn) h2.1
  unfold mayQ zeroQ
  rw [show decide (pl.length = 0) = decide ((pl.length : Int) = 0) from decide_eq_decide.2 (by omega), show decide (ql.length = 0) = decide ((ql.length : Int) = 0) from decide_eq_decide.2 (by omega)]
  generalize mayB pn pl = c1 at *
  generalize hc2 : mayB qn ql = c2 at *
  generalize Int.gcd (den pn pl) (den qn ql) = g at *
  clear bA bB
  refine ACalls.of_code T.hm (n := 57) Try.func38 rfl rfl rfl rfl ?_; simp only [List.replicate_succ, List.replicate_zero, List.cons_append, List.nil_append]
  by_cases hl : (ql.length : Int) = 0
  · have hl' : ql.length = 0 := by omega
    have hD : den qn ql = 0 := by rw [List.length_eq_zero_iff.1 hl', den_nil]
    rw [hD]
    cases qn with
    | false =>
      by_cases hp : (pl.length : Int) = 0
      · cases pn <;> simp (maxSteps := 1000000) (disch := first | exact sd | fail) only [go_sem, Nat.reduceAdd, Nat.reduceSub, Nat.reduceLeDiff, ↓reduceIte, decide_eq_true_eq, if_true, if_false, Bool.false_eq_true, Int.lt_irrefl, implies_true, true_and, and_true, eq_self, and_self, beq_self_eq_true, hl, hp, Bool.not_false, Bool.not_true, decide_true, decide_false, Bool.and_false, Bool.false_and, Bool.or_false, Bool.false_or, Bool.and_true, ne_eq, not_true_eq_false] <;> exact .rfl
      · simp (maxSteps := 1000000) (disch := first | exact sd | fail) only [go_sem, Nat.reduceAdd, Nat.reduceSub, Nat.reduceLeDiff, ↓reduceIte, decide_eq_true_eq, if_true, if_false, Bool.false_eq_true, Int.lt_irrefl, implies_true, true_and, and_true, eq_self, and_self, beq_self_eq_true, hl, hp, Bool.not_false, Bool.not_true, decide_true, decide_false, Bool.and_false, Bool.false_and, Bool.or_false, Bool.false_or, Bool.and_true, ne_eq, not_true_eq_false]; exact .rfl
    | true =>
      simp (maxSteps := 1000000) (disch := first | exact sd | fail) only [go_sem, Nat.reduceAdd, Nat.reduceSub, Nat.reduceLeDiff, ↓reduceIte, decide_eq_true_eq, if_true, if_false, Bool.false_eq_true, Int.lt_irrefl, implies_true, true_and, and_true, eq_self, and_self, beq_self_eq_true, hl, Bool.not_true]
      refine PC.step (q4) fun m1 j1 => ?_
      try simp only [Heap.next_push, Heap.next_set, Heap.next_kill, next_bump, next_E0] at j1
      simp (maxSteps := 1000000) (disch := first | exact sd | fail) only [go_sem, Nat.reduceAdd, Nat.reduceSub, Nat.reduceLeDiff, ↓reduceIte, decide_eq_true_eq, if_true, if_false, Bool.false_eq_true, Int.lt_irrefl, implies_true, true_and, and_true, eq_self, and_self, beq_self_eq_true]
      refine PC.step (q1) fun m2 j2 => ?_
      try simp only [Heap.next_push, Heap.next_set, Heap.next_kill, next_bump, next_E0] at j2
      cases c1 with
      | false => simp (maxSteps := 1000000) (disch := first | exact sd | fail) only [go_sem, Nat.reduceAdd, Nat.reduceSub, Nat.reduceLeDiff, ↓reduceIte, decide_eq_true_eq, if_true, if_false, Bool.false_eq_true, Int.lt_irrefl, implies_true, true_and, and_true, eq_self, and_self, beq_self_eq_true, Bool.and_false, Bool.false_and, Bool.or_false]; exact .rfl
      | true =>
        simp (maxSteps := 1000000) (disch := first | exact sd | fail) only [go_sem, Nat.reduceAdd, Nat.reduceSub, Nat.reduceLeDiff, ↓reduceIte, decide_eq_true_eq, if_true, if_false, Bool.false_eq_true, Int.lt_irrefl, implies_true, true_and, and_true, eq_self, and_self, beq_self_eq_true]
        refine PC.step (q2) fun m3 j3 => ?_
        try simp only [Heap.next_push, Heap.next_set, Heap.next_kill, next_bump, next_E0] at j3
        have e : c2 = false := by rw [← hc2, List.length_eq_zero_iff.1 hl']; rfl
        rw [e]
        simp (maxSteps := 1000000) (disch := first | exact sd | fail) only [go_sem, Nat.reduceAdd, Nat.reduceSub, Nat.reduceLeDiff, ↓reduceIte, decide_eq_true_eq, if_true, if_false, Bool.false_eq_true, Int.lt_irrefl, implies_true, true_and, and_true, eq_self, and_self, beq_self_eq_true, Bool.and_false, Bool.false_and, Bool.or_false]
        exact .rfl
  · have hl' : ¬ ql.length = 0 := by omega
    simp (maxSteps := 1000000) (disch := first | exact sd | fail) only [go_sem, Nat.reduceAdd, Nat.reduceSub, Nat.reduceLeDiff, ↓reduceIte, decide_eq_true_eq, if_true, if_false, Bool.false_eq_true, Int.lt_irrefl, implies_true, true_and, and_true, eq_self, and_self, beq_self_eq_true, hl]
    refine PC.step (q4) fun m1 j1 => ?_
    try simp only [Heap.next_push, Heap.next_set, Heap.next_kill, next_bump, next_E0] at j1
    simp (maxSteps := 1000000) (disch := first | exact sd | fail) only [go_sem, Nat.reduceAdd, Nat.reduceSub, Nat.reduceLeDiff, ↓reduceIte, decide_eq_true_eq, if_true, if_false, Bool.false_eq_true, Int.lt_irrefl, implies_true, true_and, and_true, eq_self, and_self, beq_self_eq_true]
    refine PC.step (q1) fun m2 j2 => ?_
    try simp only [Heap.next_push, Heap.next_set, Heap.next_kill, next_bump, next_E0] at j2
    cases c1 with
    | false => simp (maxSteps := 1000000) (disch := first | exact sd | fail) only [go_sem, Nat.reduceAdd, Nat.reduceSub, Nat.reduceLeDiff, ↓reduceIte, decide_eq_true_eq, if_true, if_false, Bool.false_eq_true, Int.lt_irrefl, implies_true, true_and, and_true, eq_self, and_self, beq_self_eq_true, hl, decide_false, Bool.and_false, Bool.false_and, Bool.or_false]; exact .rfl
    | true =>
      simp (maxSteps := 1000000) (disch := first | exact sd | fail) only [go_sem, Nat.reduceAdd, Nat.reduceSub, Nat.reduceLeDiff, ↓reduceIte, decide_eq_true_eq, if_true, if_false, Bool.false_eq_true, Int.lt_irrefl, implies_true, true_and, and_true, eq_self, and_self, beq_self_eq_true]
      refine PC.step (q2) fun m3 j3 => ?_
      try simp only [Heap.next_push, Heap.next_set, Heap.next_kill, next_bump, next_E0] at j3
      cases c2 with
      | false => simp (maxSteps := 1000000) (disch := first | exact sd | fail) only [go_sem, Nat.reduceAdd, Nat.reduceSub, Nat.reduceLeDiff, ↓reduceIte, decide_eq_true_eq, if_true, if_false, Bool.false_eq_true, Int.lt_irrefl, implies_true, true_and, and_true, eq_self, and_self, beq_self_eq_true, hl, decide_false, Bool.and_false, Bool.false_and, Bool.or_false]; exact .rfl
      | true =>
        have dz' : ¬ den qn ql = 0 := fun h => hl' ((dz rfl).1 h)
        cases qn with
        | true => simp (maxSteps := 1000000) (disch := first | exact sd | fail) only [go_sem, Nat.reduceAdd, Nat.reduceSub, Nat.reduceLeDiff, ↓reduceIte, decide_eq_true_eq, if_true, if_false, Bool.false_eq_true, Int.lt_irrefl, implies_true, true_and, and_true, eq_self, and_self, beq_self_eq_true, hl, Bool.not_true, decide_false, Bool.and_false, Bool.false_and, Bool.or_false]; exact .rfl
        | false =>
          by_cases hg : g = 1
          · subst hg
            simp (maxSteps := 1000000) (disch := first | exact sd | fail) only [go_sem, Nat.reduceAdd, Nat.reduceSub, Nat.reduceLeDiff, ↓reduceIte, decide_eq_true_eq, if_true, if_false, Bool.false_eq_true, Int.lt_irrefl, implies_true, true_and, and_true, eq_self, and_self, beq_self_eq_true, hl, dz', Bool.not_false, decide_false, decide_true, Bool.and_false, Bool.false_and, Bool.or_false, Bool.false_or, Bool.and_true, lmb_oneU, List.length_cons, List.length_nil, List.getD_cons_zero, Int.natCast_one, ln_one, ne_eq, not_false_eq_true, Int.toNat_zero]
            exact .rfl
          · by_cases h3 : (ln (g : Int) : Int) = 1
            · have h4 : ¬ (lmb (g : Int)).getD 0 0 = 1 := fun h => hg (lmb_is1U (by omega) h)
              have h5 : (0 : Int) < (lmb (g : Int)).length := by rw [len_z]; omega
              simp (maxSteps := 1000000) (disch := first | exact sd | fail) only [go_sem, Nat.reduceAdd, Nat.reduceSub, Nat.reduceLeDiff, ↓reduceIte, decide_eq_true_eq, if_true, if_false, Bool.false_eq_true, Int.lt_irrefl, implies_true, true_and, and_true, eq_self, and_self, beq_self_eq_true, hl, dz', hg, h3, h4, Bool.not_false, decide_false, decide_true, Bool.and_false, Bool.false_and, Bool.or_false, Bool.false_or, Bool.and_true, ne_eq, not_false_eq_true, Int.toNat_zero]
              exact .rfl
            · simp (maxSteps := 1000000) (disch := first | exact sd | fail) only [go_sem, Nat.reduceAdd, Nat.reduceSub, Nat.reduceLeDiff, ↓reduceIte, decide_eq_true_eq, if_true, if_false, Bool.false_eq_true, Int.lt_irrefl, implies_true, true_and, and_true, eq_self, and_self, beq_self_eq_true, hl, dz', hg, h3, Bool.not_false, decide_false, decide_true, Bool.and_false, Bool.false_and, Bool.or_false, Bool.false_or, Bool.and_true, ne_eq, not_false_eq_true, Int.toNat_zero]
              exact .rfl
end Go.Abs
