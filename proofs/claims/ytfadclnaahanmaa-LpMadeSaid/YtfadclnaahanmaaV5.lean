/- The document's quotients: calls of values. -/
import Derived.Test.YtfadclnaahanmaaVa
set_option linter.unusedVariables false
set_option linter.unusedSimpArgs false
namespace Go.Abs
open Go Go.Proofs
set_option maxRecDepth 100000
set_option maxHeartbeats 4000000
def pl90_3 : Plan := ⟨[0, 1, 2, 3, 5, 6, 7, 8, 11, 12, 13, 14, 20], [(4, [14, 12, 8, 6], []), (9, [14, 12], []), (10, [14, 12], []), (15, [], []), (16, [], [17, 18, 19]), (21, [], [22])]⟩
def pl91_3 : Plan := ⟨[0, 1, 2, 3, 5, 6, 7, 8, 14], [(4, [8, 6], []), (9, [], []), (10, [], [11, 12, 13]), (15, [], [16])]⟩
def pl98_3 : Plan := ⟨[0, 1, 2, 3, 5, 6, 7, 8], [(4, [8, 6], []), (9, [], []), (10, [], [11])]⟩
def pl171_3 : Plan := ⟨[0, 1, 2, 3, 4, 5, 7, 8, 9], [(6, [9], []), (10, [], [11]), (12, [], [])]⟩
variable {n m pn qn pn' qn' : Bool} {l k pl ql pl' ql' : List Int} {H : Heap} {K : Value → Heap → Prop}

theorem may_l (hl : Lim l) (h : mayB n l = true) : lmb (den n l) = l := by
  have := nz_limbs (ng := n) hl
  unfold nzL at this
  rw [if_pos h] at this
  exact this.symm
theorem den_zero_iff (hl : Lim l) (h : mayB n l = true) : den n l = 0 ↔ l.length = 0 := by
  have h1 := may_l hl h
  have h2 : ln (den n l) = l.length := by rw [← len_z, h1]
  rw [← h2, ln_eq_zero]
theorem lmb_one : lmb 1 = [1] := by
  have h := val_z 1
  have h2 := len_z 1
  rw [ln_one] at h2
  match lmb 1, h, h2 with
  | [d], h, _ => rw [val_one] at h; rw [h]; rfl
theorem lmb_is1 {g : Nat} (h1 : ln (g : Int) = 1) (h2 : (lmb g).getD 0 0 = 1) : g = 1 := by
  have h := val_z g
  have h3 := len_z (g : Int)
  rw [h1] at h3
  match lmb g, h, h3, h2 with
  | [d], h, _, h2 =>
    rw [val_one] at h
    simp at h2 h
    omega
theorem p74 (h1 : Lb pl) (h2 : Lb ql) (k1 : pl.length ≤ 2 ^ 39) (k2 : ql.length ≤ 2 ^ 39) : PC Try.prog 69 [R4 pn pl qn ql] (.bool (mayQ pn pl qn ql)) := by
  refine PC.of (.cons pu_r4 .nil) (.ground rfl) fun N hN => ?_
  have bA := ln_den (n := pn) h1.1
  have bB := ln_den (n := qn) h2.1
  have q4 := p47 (n := pn) (m := qn) h1 h2 (by omega) (by omega)
  have q1 := p52 (n := pn) h1
  have q2 := p52 (n := qn) h2
  have dz := den_zero_iff (n := qn) h2.1
  unfold mayQ zeroQ
  rw [show decide (pl.length = 0) = decide ((pl.length : Int) = 0) from decide_eq_decide.2 (by omega), show decide (ql.length = 0) = decide ((ql.length : Int) = 0) from decide_eq_decide.2 (by omega)]
  generalize mayB pn pl = c1 at *
  generalize hc2 : mayB qn ql = c2 at *
  generalize Int.gcd (den pn pl) (den qn ql) = g at *
  clear bA bB
  refine ACalls.of_code T.hm (n := 57) Try.func69 rfl rfl rfl rfl ?_; simp only [List.replicate_succ, List.replicate_zero, List.cons_append, List.nil_append]
  by_cases hl : (ql.length : Int) = 0
  · have hl' : ql.length = 0 := by omega
    have hD : den qn ql = 0 := by rw [List.length_eq_zero_iff.1 hl', den_nil]
    rw [hD]
    cases qn with
    | false =>
      by_cases hp : (pl.length : Int) = 0
      · cases pn <;> simp (maxSteps := 1000000) (disch := first | exact sd | fail) only [go_sem, Nat.reduceAdd, Nat.reduceSub, Nat.reduceLeDiff, ↓reduceIte, decide_eq_true_eq, if_true, if_false, Bool.false_eq_true, Int.lt_irrefl, implies_true, true_and, and_true, eq_self, and_self, beq_self_eq_true, hl, hp, Bool.not_false, Bool.not_true, decide_true, decide_false, Bool.and_false, Bool.false_and, Bool.or_false, Bool.false_or, Bool.and_true, ne_eq, not_true_eq_false] <;> exact .rfl
      · simp (maxSteps := 1000000) (disch := first | exact sd | fail) only [go_sem, Nat.reduceAdd, Nat.reduceSub, Nat.reduceLeDiff, ↓reduceIte, decide_eq_true_eq, if_true, if_false, Bool.false_eq_true, Int.lt_irrefl, implies_true, true_and, and_true, eq_self, and_self, beq_self_eq_true, hl, hp, Bool.not_false, Bool.not_true, decide_true, decide_false, Bool.and_false, Bool.false_and, Bool.or_false, Bool.false_or, Bool.and_true, ne_eq, not_true_eq_false]; exact .rfl
    | true =>
      simp (maxSteps := 1000000) (disch := first | exact sd | fail) only [go_sem, Nat.reduceAdd, Nat.reduceSub, Nat.reduceLeDiff, ↓reduceIte, decide_eq_true_eq, if_true, if_false, Bool.false_eq_true, Int.lt_irrefl, implies_true, true_and, and_true, eq_self, and_self, beq_self_eq_true, hl, Bool.not_true]
      refine PC.step (q4) fun m1 j1 => ?_
      try simp only [Heap.next_push, Heap.next_set, Heap.next_kill, next_bump, next_E0] at j1
      simp (maxSteps := 1000000) (disch := first | exact sd | fail) only [go_sem, Nat.reduceAdd, Nat.reduceSub, Nat.reduceLeDiff, ↓reduceIte, decide_eq_true_eq, if_true, if_false, Bool.false_eq_true, Int.lt_irrefl, implies_true, true_and, and_true, eq_self, and_self, beq_self_eq_true]
      refine PC.step (q1) fun m2 j2 => ?_
      try simp only [Heap.next_push, Heap.next_set, Heap.next_kill, next_bump, next_E0] at j2
      cases c1 with
      | false => simp (maxSteps := 1000000) (disch := first | exact sd | fail) only [go_sem, Nat.reduceAdd, Nat.reduceSub, Nat.reduceLeDiff, ↓reduceIte, decide_eq_true_eq, if_true, if_false, Bool.false_eq_true, Int.lt_irrefl, implies_true, true_and, and_true, eq_self, and_self, beq_self_eq_true, Bool.and_false, Bool.false_and, Bool.or_false]; exact .rfl
      | true =>
        simp (maxSteps := 1000000) (disch := first | exact sd | fail) only [go_sem, Nat.reduceAdd, Nat.reduceSub, Nat.reduceLeDiff, ↓reduceIte, decide_eq_true_eq, if_true, if_false, Bool.false_eq_true, Int.lt_irrefl, implies_true, true_and, and_true, eq_self, and_self, beq_self_eq_true]
        refine PC.step (q2) fun m3 j3 => ?_
        try simp only [Heap.next_push, Heap.next_set, Heap.next_kill, next_bump, next_E0] at j3
        have e : c2 = false := by rw [← hc2, List.length_eq_zero_iff.1 hl']; rfl
        rw [e]
        simp (maxSteps := 1000000) (disch := first | exact sd | fail) only [go_sem, Nat.reduceAdd, Nat.reduceSub, Nat.reduceLeDiff, ↓reduceIte, decide_eq_true_eq, if_true, if_false, Bool.false_eq_true, Int.lt_irrefl, implies_true, true_and, and_true, eq_self, and_self, beq_self_eq_true, Bool.and_false, Bool.false_and, Bool.or_false]
        exact .rfl
  · have hl' : ¬ ql.length = 0 := by omega
    simp (maxSteps := 1000000) (disch := first | exact sd | fail) only [go_sem, Nat.reduceAdd, Nat.reduceSub, Nat.reduceLeDiff, ↓reduceIte, decide_eq_true_eq, if_true, if_false, Bool.false_eq_true, Int.lt_irrefl, implies_true, true_and, and_true, eq_self, and_self, beq_self_eq_true, hl]
    refine PC.step (q4) fun m1 j1 => ?_
    try simp only [Heap.next_push, Heap.next_set, Heap.next_kill, next_bump, next_E0] at j1
    simp (maxSteps := 1000000) (disch := first | exact sd | fail) only [go_sem, Nat.reduceAdd, Nat.reduceSub, Nat.reduceLeDiff, ↓reduceIte, decide_eq_true_eq, if_true, if_false, Bool.false_eq_true, Int.lt_irrefl, implies_true, true_and, and_true, eq_self, and_self, beq_self_eq_true]
    refine PC.step (q1) fun m2 j2 => ?_
    try simp only [Heap.next_push, Heap.next_set, Heap.next_kill, next_bump, next_E0] at j2
    cases c1 with
    | false => simp (maxSteps := 1000000) (disch := first | exact sd | fail) only [go_sem, Nat.reduceAdd, Nat.reduceSub, Nat.reduceLeDiff, ↓reduceIte, decide_eq_true_eq, if_true, if_false, Bool.false_eq_true, Int.lt_irrefl, implies_true, true_and, and_true, eq_self, and_self, beq_self_eq_true, hl, decide_false, Bool.and_false, Bool.false_and, Bool.or_false]; exact .rfl
    | true =>
      simp (maxSteps := 1000000) (disch := first | exact sd | fail) only [go_sem, Nat.reduceAdd, Nat.reduceSub, Nat.reduceLeDiff, ↓reduceIte, decide_eq_true_eq, if_true, if_false, Bool.false_eq_true, Int.lt_irrefl, implies_true, true_and, and_true, eq_self, and_self, beq_self_eq_true]
      refine PC.step (q2) fun m3 j3 => ?_
      try simp only [Heap.next_push, Heap.next_set, Heap.next_kill, next_bump, next_E0] at j3
      cases c2 with
      | false => simp (maxSteps := 1000000) (disch := first | exact sd | fail) only [go_sem, Nat.reduceAdd, Nat.reduceSub, Nat.reduceLeDiff, ↓reduceIte, decide_eq_true_eq, if_true, if_false, Bool.false_eq_true, Int.lt_irrefl, implies_true, true_and, and_true, eq_self, and_self, beq_self_eq_true, hl, decide_false, Bool.and_false, Bool.false_and, Bool.or_false]; exact .rfl
      | true =>
        have dz' : ¬ den qn ql = 0 := fun h => hl' ((dz rfl).1 h)
        cases qn with
        | true => simp (maxSteps := 1000000) (disch := first | exact sd | fail) only [go_sem, Nat.reduceAdd, Nat.reduceSub, Nat.reduceLeDiff, ↓reduceIte, decide_eq_true_eq, if_true, if_false, Bool.false_eq_true, Int.lt_irrefl, implies_true, true_and, and_true, eq_self, and_self, beq_self_eq_true, hl, Bool.not_true, decide_false, Bool.and_false, Bool.false_and, Bool.or_false]; exact .rfl
        | false =>
          by_cases hg : g = 1
          · subst hg
            simp (maxSteps := 1000000) (disch := first | exact sd | fail) only [go_sem, Nat.reduceAdd, Nat.reduceSub, Nat.reduceLeDiff, ↓reduceIte, decide_eq_true_eq, if_true, if_false, Bool.false_eq_true, Int.lt_irrefl, implies_true, true_and, and_true, eq_self, and_self, beq_self_eq_true, hl, dz', Bool.not_false, decide_false, decide_true, Bool.and_false, Bool.false_and, Bool.or_false, Bool.false_or, Bool.and_true, lmb_one, List.length_cons, List.length_nil, List.getD_cons_zero, Int.natCast_one, ln_one, ne_eq, not_false_eq_true, Int.toNat_zero]
            exact .rfl
          · by_cases h3 : (ln (g : Int) : Int) = 1
            · have h4 : ¬ (lmb (g : Int)).getD 0 0 = 1 := fun h => hg (lmb_is1 (by omega) h)
              have h5 : (0 : Int) < (lmb (g : Int)).length := by rw [len_z]; omega
              simp (maxSteps := 1000000) (disch := first | exact sd | fail) only [go_sem, Nat.reduceAdd, Nat.reduceSub, Nat.reduceLeDiff, ↓reduceIte, decide_eq_true_eq, if_true, if_false, Bool.false_eq_true, Int.lt_irrefl, implies_true, true_and, and_true, eq_self, and_self, beq_self_eq_true, hl, dz', hg, h3, h4, Bool.not_false, decide_false, decide_true, Bool.and_false, Bool.false_and, Bool.or_false, Bool.false_or, Bool.and_true, ne_eq, not_false_eq_true, Int.toNat_zero]
              exact .rfl
            · simp (maxSteps := 1000000) (disch := first | exact sd | fail) only [go_sem, Nat.reduceAdd, Nat.reduceSub, Nat.reduceLeDiff, ↓reduceIte, decide_eq_true_eq, if_true, if_false, Bool.false_eq_true, Int.lt_irrefl, implies_true, true_and, and_true, eq_self, and_self, beq_self_eq_true, hl, dz', hg, h3, Bool.not_false, decide_false, decide_true, Bool.and_false, Bool.false_and, Bool.or_false, Bool.false_or, Bool.and_true, ne_eq, not_false_eq_true, Int.toNat_zero]
              exact .rfl
theorem p171 (h1 : Lb pl) (h2 : Lb ql) (k1 : pl.length ≤ 2 ^ 39) (k2 : ql.length ≤ 2 ^ 39) : PC Try.prog 83 [R4 pn pl qn ql] (Qn (dq pn pl qn ql)) := by
  refine PC.of (.cons pu_r4 .nil) pu_q fun N hN => ?_
  have hz := dq_zero (pn := pn) (pl := pl) (qn := qn) (ql := ql)
  have hm := dq_not (pn := pn) (pl := pl) (qn := qn) (ql := ql)
  have hp := dq_parts (pn := pn) (pl := pl) (qn := qn) (ql := ql) h2.1
  have hq := mayQ_parts (pn := pn) (pl := pl) (qn := qn) (ql := ql)
  have q2 := p74 (pn := pn) (qn := qn) h1 h2 k1 k2
  have z1 : ql.length = 0 → mayQ pn pl qn ql = true → zeroQ pn pl qn ql = true := fun h hm => by
    cases hz : zeroQ pn pl qn ql with
    | true => rfl
    | false => exact absurd (by rw [List.length_eq_zero_iff.1 h, den_nil]) (mayQ_parts hm hz).2.2.2.1
  have z2 : ¬ ql.length = 0 → zeroQ pn pl qn ql = false := fun h => by unfold zeroQ; simp [h]
  generalize dq pn pl qn ql = x at *
  generalize zeroQ pn pl qn ql = c1 at *
  generalize mayQ pn pl qn ql = c2 at *
  refine ACalls.of_code T.hm (n := 25) Try.func83 rfl rfl rfl rfl ?_; simp only [List.replicate_succ, List.replicate_zero, List.cons_append, List.nil_append]
  simp (maxSteps := 1000000) (disch := first | exact sd | fail) only [go_sem, Nat.reduceAdd, Nat.reduceSub, Nat.reduceLeDiff, ↓reduceIte, decide_eq_true_eq, if_true, if_false, Bool.false_eq_true, Int.lt_irrefl, implies_true, true_and, and_true, eq_self, and_self, beq_self_eq_true, aw_plan (id := 3) pl171_3, pl171_3]
  refine PC.step (q2) fun m1 j1 => ?_
  try simp only [Heap.next_push, Heap.next_set, Heap.next_kill, next_bump, next_E0] at j1
  cases c2 with
  | false =>
    simp (maxSteps := 1000000) (disch := first | exact sd | fail) only [go_sem, Nat.reduceAdd, Nat.reduceSub, Nat.reduceLeDiff, ↓reduceIte, decide_eq_true_eq, if_true, if_false, Bool.false_eq_true, Int.lt_irrefl, implies_true, true_and, and_true, eq_self, and_self, beq_self_eq_true, aw_plan (id := 3) pl171_3, pl171_3, Bool.not_false]
    refine PC.step (p173) fun m2 j2 => ?_
    try simp only [Heap.next_push, Heap.next_set, Heap.next_kill, next_bump, next_E0] at j2
    simp (maxSteps := 1000000) (disch := first | exact sd | fail) only [go_sem, Nat.reduceAdd, Nat.reduceSub, Nat.reduceLeDiff, ↓reduceIte, decide_eq_true_eq, if_true, if_false, Bool.false_eq_true, Int.lt_irrefl, implies_true, true_and, and_true, eq_self, and_self, beq_self_eq_true, aw_plan (id := 3) pl171_3, pl171_3]
    rw [hm rfl]
    exact .rfl
  | true =>
    by_cases hl : (ql.length : Int) = 0
    · simp (maxSteps := 1000000) (disch := first | exact sd | fail) only [go_sem, Nat.reduceAdd, Nat.reduceSub, Nat.reduceLeDiff, ↓reduceIte, decide_eq_true_eq, if_true, if_false, Bool.false_eq_true, Int.lt_irrefl, implies_true, true_and, and_true, eq_self, and_self, beq_self_eq_true, aw_plan (id := 3) pl171_3, pl171_3, Bool.not_true, hl]
      refine PC.step (p173) fun m2 j2 => ?_
      try simp only [Heap.next_push, Heap.next_set, Heap.next_kill, next_bump, next_E0] at j2
      simp (maxSteps := 1000000) (disch := first | exact sd | fail) only [go_sem, Nat.reduceAdd, Nat.reduceSub, Nat.reduceLeDiff, ↓reduceIte, decide_eq_true_eq, if_true, if_false, Bool.false_eq_true, Int.lt_irrefl, implies_true, true_and, and_true, eq_self, and_self, beq_self_eq_true, aw_plan (id := 3) pl171_3, pl171_3]
      rw [hz (z1 (by omega) rfl)]
      exact .rfl
    · have hc := z2 (by omega)
      subst hc
      obtain ⟨e1, e2⟩ := hp rfl rfl
      obtain ⟨m1, m2, m3, m4, m5⟩ := hq rfl rfl
      have f1 : (if pn = true then -(val pl) else val pl) = den pn pl := by unfold den; rw [if_pos m1]
      have f2 : (if (false : Bool) = true then -(val ql) else val ql) = den qn ql := by rw [m3]; unfold den; rw [m3] at m2; rw [if_pos m2]
      simp (maxSteps := 1000000) (disch := first | exact sd | fail) only [go_sem, Nat.reduceAdd, Nat.reduceSub, Nat.reduceLeDiff, ↓reduceIte, decide_eq_true_eq, if_true, if_false, Bool.false_eq_true, Int.lt_irrefl, implies_true, true_and, and_true, eq_self, and_self, beq_self_eq_true, aw_plan (id := 3) pl171_3, pl171_3, Bool.not_true, hl]
      refine PC.step (p150 h1) fun m2 j2 => ?_
      try simp only [Heap.next_push, Heap.next_set, Heap.next_kill, next_bump, next_E0] at j2
      rw [f1]
      simp (maxSteps := 1000000) (disch := first | exact sd | fail) only [go_sem, Nat.reduceAdd, Nat.reduceSub, Nat.reduceLeDiff, ↓reduceIte, decide_eq_true_eq, if_true, if_false, Bool.false_eq_true, Int.lt_irrefl, implies_true, true_and, and_true, eq_self, and_self, beq_self_eq_true, aw_plan (id := 3) pl171_3, pl171_3]
      refine PC.step (p150 h2) fun m3 j3 => ?_
      try simp only [Heap.next_push, Heap.next_set, Heap.next_kill, next_bump, next_E0] at j3
      rw [f2, ← e1, ← e2]
      simp (maxSteps := 1000000) (disch := first | exact sd | fail) only [go_sem, Nat.reduceAdd, Nat.reduceSub, Nat.reduceLeDiff, ↓reduceIte, decide_eq_true_eq, if_true, if_false, Bool.false_eq_true, Int.lt_irrefl, implies_true, true_and, and_true, eq_self, and_self, beq_self_eq_true, aw_plan (id := 3) pl171_3, pl171_3]
      exact .rfl

theorem p72 (h1 : Lb l) (h2 : Lb k) (bA : ln (den n l) ≤ 2 ^ 39) (bB : ln (den m k) ≤ 2 ^ 39) (h0 : den m k ≠ 0) :
    PC Try.prog 87 [In n l, In m k] (.tuple ⟨[Qn (Rat.divInt (den n l) (den m k)), .int .i64 0]⟩) := by
  refine PC.of (.cons pu_in (.cons pu_in .nil)) (pu_t pu_q) fun N hN => ?_
  have q1 := p148 (n := n) h1
  have q2 := p148 (n := m) h2
  generalize den n l = A at *
  generalize den m k = B at *
  have hg := gcd_pos' (A := A) h0
  have lg := gcd_lb bA bB
  have hne : ¬ (ln B : Int) = 0 := by rw [Int.ofNat_eq_zero, ln_eq_zero]; exact h0
  have q4 := p47 (n := sgn A) (l := lmb A) (m := sgn B) (k := lmb B) (lb_z (by omega)) (lb_z (by omega)) (by rw [den_z]; exact bA) (by rw [den_z]; exact bB)
  have q5 := p43 (n := sgn A) (l := lmb A) (m := sgn (Int.gcd A B)) (k := lmb (Int.gcd A B)) (lb_z (by omega)) (lb_z (by omega)) (by rw [den_z]; exact bA) (by rw [den_z]; exact lg) (by rw [den_z]; omega)
  have q6 := p43 (n := sgn B) (l := lmb B) (m := sgn (Int.gcd A B)) (k := lmb (Int.gcd A B)) (lb_z (by omega)) (lb_z (by omega)) (by rw [den_z]; exact bB) (by rw [den_z]; exact lg) (by rw [den_z]; omega)
  rw [den_z, den_z] at q4 q5 q6
  have lx := ln_tdiv A (Int.gcd A B)
  have ly := ln_tdiv B (Int.gcd A B)
  refine ACalls.of_code T.hm (n := 46) Try.func87 rfl rfl rfl rfl ?_; simp only [List.replicate_succ, List.replicate_zero, List.cons_append, List.nil_append]
  simp (maxSteps := 1000000) (disch := first | exact sd | fail) only [go_sem, Nat.reduceAdd, Nat.reduceSub, Nat.reduceLeDiff, ↓reduceIte, decide_eq_true_eq, if_true, if_false, Bool.false_eq_true, Int.lt_irrefl, implies_true, true_and, and_true, eq_self, and_self, beq_self_eq_true]
  refine PC.step (q1) fun m1 j1 => ?_
  try simp only [Heap.next_push, Heap.next_set, Heap.next_kill, next_bump, next_E0] at j1
  simp (maxSteps := 1000000) (disch := first | exact sd | fail) only [go_sem, Nat.reduceAdd, Nat.reduceSub, Nat.reduceLeDiff, ↓reduceIte, decide_eq_true_eq, if_true, if_false, Bool.false_eq_true, Int.lt_irrefl, implies_true, true_and, and_true, eq_self, and_self, beq_self_eq_true]
  refine PC.step (q2) fun m2 j2 => ?_
  try simp only [Heap.next_push, Heap.next_set, Heap.next_kill, next_bump, next_E0] at j2
  simp (maxSteps := 1000000) (disch := first | exact sd | fail) only [go_sem, Nat.reduceAdd, Nat.reduceSub, Nat.reduceLeDiff, ↓reduceIte, decide_eq_true_eq, if_true, if_false, Bool.false_eq_true, Int.lt_irrefl, implies_true, true_and, and_true, eq_self, and_self, beq_self_eq_true, hne]
  refine PC.step (q4) fun m3 j3 => ?_
  try simp only [Heap.next_push, Heap.next_set, Heap.next_kill, next_bump, next_E0] at j3
  simp (maxSteps := 1000000) (disch := first | exact sd | fail) only [go_sem, Nat.reduceAdd, Nat.reduceSub, Nat.reduceLeDiff, ↓reduceIte, decide_eq_true_eq, if_true, if_false, Bool.false_eq_true, Int.lt_irrefl, implies_true, true_and, and_true, eq_self, and_self, beq_self_eq_true]
  refine PC.step (q5) fun m4 j4 => ?_
  try simp only [Heap.next_push, Heap.next_set, Heap.next_kill, next_bump, next_E0] at j4
  simp (maxSteps := 1000000) (disch := first | exact sd | fail) only [go_sem, Nat.reduceAdd, Nat.reduceSub, Nat.reduceLeDiff, ↓reduceIte, decide_eq_true_eq, if_true, if_false, Bool.false_eq_true, Int.lt_irrefl, implies_true, true_and, and_true, eq_self, and_self, beq_self_eq_true]
  refine PC.step (q6) fun m5 j5 => ?_
  try simp only [Heap.next_push, Heap.next_set, Heap.next_kill, next_bump, next_E0] at j5
  by_cases hB : B < 0
  · have hs : sgn (B.tdiv (Int.gcd A B)) = true := by
      have := den_neg (A := A) hB
      rw [Int.tdiv_neg] at this
      have h2 := dpos (Rat.divInt A B)
      rw [sgn_lt]; omega
    simp (maxSteps := 1000000) (disch := first | exact sd | fail) only [go_sem, Nat.reduceAdd, Nat.reduceSub, Nat.reduceLeDiff, ↓reduceIte, decide_eq_true_eq, if_true, if_false, Bool.false_eq_true, Int.lt_irrefl, implies_true, true_and, and_true, eq_self, and_self, beq_self_eq_true, hs]
    refine PC.step (p67 (lb_z (by omega))) fun m6 j6 => ?_
    try simp only [Heap.next_push, Heap.next_set, Heap.next_kill, next_bump, next_E0] at j6
    simp (maxSteps := 1000000) (disch := first | exact sd | fail) only [go_sem, Nat.reduceAdd, Nat.reduceSub, Nat.reduceLeDiff, ↓reduceIte, decide_eq_true_eq, if_true, if_false, Bool.false_eq_true, Int.lt_irrefl, implies_true, true_and, and_true, eq_self, and_self, beq_self_eq_true]
    have q7 := p67 (n := sgn (B.tdiv (Int.gcd A B))) (l := lmb (B.tdiv (Int.gcd A B))) (lb_z (by omega))
    rw [den_z, hs] at q7
    refine PC.step (q7) fun m7 j7 => ?_
    try simp only [Heap.next_push, Heap.next_set, Heap.next_kill, next_bump, next_E0] at j7
    simp (maxSteps := 1000000) (disch := first | exact sd | fail) only [go_sem, Nat.reduceAdd, Nat.reduceSub, Nat.reduceLeDiff, ↓reduceIte, decide_eq_true_eq, if_true, if_false, Bool.false_eq_true, Int.lt_irrefl, implies_true, true_and, and_true, eq_self, and_self, beq_self_eq_true]
    rw [← Int.tdiv_neg, ← Int.tdiv_neg, ← num_neg hB, ← den_neg hB]
    exact .rfl
  · have hs : sgn (B.tdiv (Int.gcd A B)) = false := by
      have := den_pos (A := A) (B := B) (by omega)
      unfold sgn; simp; omega
    simp (maxSteps := 1000000) (disch := first | exact sd | fail) only [go_sem, Nat.reduceAdd, Nat.reduceSub, Nat.reduceLeDiff, ↓reduceIte, decide_eq_true_eq, if_true, if_false, Bool.false_eq_true, Int.lt_irrefl, implies_true, true_and, and_true, eq_self, and_self, beq_self_eq_true, hs]
    show FzRel _ _ (.tuple ⟨[.agg ⟨[.bool (sgn (Rat.divInt A B).num), Vv eU (lmb (Rat.divInt A B).num), .bool (sgn (Rat.divInt A B).den), Vv eU (lmb (Rat.divInt A B).den)]⟩, _]⟩) _
    rw [sgn_d, num_pos (by omega), den_pos (by omega)]
    exact .rfl
theorem p90 (h1 : Lr pl) (h2 : Lr ql) (h3 : Lr pl') (h4 : Lr ql') : PC Try.prog 48 [R4 pn pl qn ql, R4 pn' pl' qn' ql'] (Qn (dq pn pl qn ql + dq pn' pl' qn' ql')) := by
  refine PC.of (.cons pu_r4 (.cons pu_r4 .nil)) (by first | exact pu_q | exact .ground rfl) fun N hN => ?_
  have l1 := h1.2
  have l2 := h2.2
  have l3 := h3.2
  have l4 := h4.2
  have q1 := p171 (pn := pn) (qn := qn) h1.lb h2.lb (by omega) (by omega)
  have q2 := p171 (pn := pn') (qn := qn') h3.lb h4.lb (by omega) (by omega)
  have b1 := h1.q (pn := pn) (qn := qn) h2
  have b2 := h3.q (pn := pn') (qn := qn') h4
  generalize dq pn pl qn ql = x at *
  generalize dq pn' pl' qn' ql' = y at *
  have u1 := lq_num x
  have u2 := lq_num y
  have u3 := lq_den x
  have u4 := lq_den y
  have u5 := lq_dd x y
  have u6 := lq_cross x y
  have u7 := lq_cross y x
  have u8 := lq_sum x y
  have u9 := ln_mul x.num y.num
  refine ACalls.of_code T.hm (n := 30) Try.func48 rfl rfl rfl rfl ?_; simp only [List.replicate_succ, List.replicate_zero, List.cons_append, List.nil_append]
  simp (maxSteps := 1000000) (disch := first | exact sd | fail) only [go_sem, Nat.reduceAdd, Nat.reduceSub, Nat.reduceLeDiff, ↓reduceIte, decide_eq_true_eq, if_true, if_false, Bool.false_eq_true, Int.lt_irrefl, implies_true, true_and, and_true, eq_self, and_self, beq_self_eq_true, aw_plan (id := 3) pl90_3, pl90_3]
  refine PC.step (q1) fun m1 j1 => ?_
  try simp only [Heap.next_push, Heap.next_set, Heap.next_kill, next_bump, next_E0] at j1
  simp (maxSteps := 1000000) (disch := first | exact sd | fail) only [go_sem, Nat.reduceAdd, Nat.reduceSub, Nat.reduceLeDiff, ↓reduceIte, decide_eq_true_eq, if_true, if_false, Bool.false_eq_true, Int.lt_irrefl, implies_true, true_and, and_true, eq_self, and_self, beq_self_eq_true, aw_plan (id := 3) pl90_3, pl90_3]
  refine PC.step (q2) fun m2 j2 => ?_
  try simp only [Heap.next_push, Heap.next_set, Heap.next_kill, next_bump, next_E0] at j2
  simp (maxSteps := 1000000) (disch := first | exact sd | fail) only [go_sem, Nat.reduceAdd, Nat.reduceSub, Nat.reduceLeDiff, ↓reduceIte, decide_eq_true_eq, if_true, if_false, Bool.false_eq_true, Int.lt_irrefl, implies_true, true_and, and_true, eq_self, and_self, beq_self_eq_true, aw_plan (id := 3) pl90_3, pl90_3]
  refine PC.step (p65 (lb_z (by omega)) (lb_z (by omega))) fun m3 j3 => ?_
  try simp only [Heap.next_push, Heap.next_set, Heap.next_kill, next_bump, next_E0] at j3
  simp (maxSteps := 1000000) (disch := first | exact sd | fail) only [go_sem, Nat.reduceAdd, Nat.reduceSub, Nat.reduceLeDiff, ↓reduceIte, decide_eq_true_eq, if_true, if_false, Bool.false_eq_true, Int.lt_irrefl, implies_true, true_and, and_true, eq_self, and_self, beq_self_eq_true, aw_plan (id := 3) pl90_3, pl90_3]
  refine PC.step (p65 (lb_z (by omega)) (lb_z (by omega))) fun m4 j4 => ?_
  try simp only [Heap.next_push, Heap.next_set, Heap.next_kill, next_bump, next_E0] at j4
  simp (maxSteps := 1000000) (disch := first | exact sd | fail) only [go_sem, Nat.reduceAdd, Nat.reduceSub, Nat.reduceLeDiff, ↓reduceIte, decide_eq_true_eq, if_true, if_false, Bool.false_eq_true, Int.lt_irrefl, implies_true, true_and, and_true, eq_self, and_self, beq_self_eq_true, aw_plan (id := 3) pl90_3, pl90_3]
  refine PC.step (p63 (lb_z (by omega)) (lb_z (by omega))) fun m5 j5 => ?_
  try simp only [Heap.next_push, Heap.next_set, Heap.next_kill, next_bump, next_E0] at j5
  simp (maxSteps := 1000000) (disch := first | exact sd | fail) only [go_sem, Nat.reduceAdd, Nat.reduceSub, Nat.reduceLeDiff, ↓reduceIte, decide_eq_true_eq, if_true, if_false, Bool.false_eq_true, Int.lt_irrefl, implies_true, true_and, and_true, eq_self, and_self, beq_self_eq_true, aw_plan (id := 3) pl90_3, pl90_3]
  refine PC.step (p65 (lb_z (by omega)) (lb_z (by omega))) fun m6 j6 => ?_
  try simp only [Heap.next_push, Heap.next_set, Heap.next_kill, next_bump, next_E0] at j6
  simp (maxSteps := 1000000) (disch := first | exact sd | fail) only [go_sem, Nat.reduceAdd, Nat.reduceSub, Nat.reduceLeDiff, ↓reduceIte, decide_eq_true_eq, if_true, if_false, Bool.false_eq_true, Int.lt_irrefl, implies_true, true_and, and_true, eq_self, and_self, beq_self_eq_true, aw_plan (id := 3) pl90_3, pl90_3]
  refine PC.step (p72 (lb_z (by omega)) (lb_z (by omega)) (by rw [den_z]; omega) (by rw [den_z]; omega) (by rw [den_z]; exact dd_ne x y)) fun m7 j7 => ?_
  try simp only [Heap.next_push, Heap.next_set, Heap.next_kill, next_bump, next_E0] at j7
  rw [den_z, den_z, add_least]
  simp (maxSteps := 1000000) (disch := first | exact sd | fail) only [go_sem, Nat.reduceAdd, Nat.reduceSub, Nat.reduceLeDiff, ↓reduceIte, decide_eq_true_eq, if_true, if_false, Bool.false_eq_true, Int.lt_irrefl, implies_true, true_and, and_true, eq_self, and_self, beq_self_eq_true, aw_plan (id := 3) pl90_3, pl90_3]
  exact .rfl
end Go.Abs
