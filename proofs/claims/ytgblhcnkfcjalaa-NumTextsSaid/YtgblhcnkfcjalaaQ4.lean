/- The document's quotients, and what divides both: calls of values. -/
import Derived.Test.YtgblhcnkfcjalaaQ2
set_option linter.unusedVariables false
set_option linter.unusedSimpArgs false
namespace Go.Abs
open Go Go.Proofs
set_option maxRecDepth 100000
set_option maxHeartbeats 40000000

def pl43_6 : Plan := ⟨[0, 1, 2, 3, 4, 5, 7, 8, 9], [(6, [8], []), (10, [], []), (11, [], []), (12, [], [13])]⟩
def pl47_1 : Plan := ⟨[0, 3], [(1, [3], [2]), (4, [], [5, 6, 7])]⟩
theorem ln_two {B : Int} (h : 4294967296 ≤ B.natAbs) : 2 ≤ ln B := by
  rcases Nat.lt_or_ge (ln B) 2 with h1 | h1
  · have := ln_lt B
    have h2 : 4294967296 ^ ln B ≤ 4294967296 ^ 1 := Nat.pow_le_pow_right (by decide) (by omega)
    omega
  · exact h1
theorem top_z {B : Int} (h : B ≠ 0) : (lmb B).getD ((lmb B).length - 1) 0 ≠ 0 := by
  rcases top_limbs B.natAbs with h1 | h1
  · rw [List.length_eq_zero_iff, limbs_nil] at h1; omega
  · exact h1
theorem tdiv_signs (A B : Int) : (if (sgn A != sgn B) = true then -((A.natAbs : Int) / B.natAbs) else (A.natAbs : Int) / B.natAbs) = A.tdiv B := by
  unfold sgn
  rcases Int.lt_or_le A 0 with hA | hA <;> rcases Int.lt_or_le B 0 with hB | hB
  · have h1 : (A.natAbs : Int) = -A := by omega
    have h2 : (B.natAbs : Int) = -B := by omega
    rw [if_neg (by simp [hA, hB]), h1, h2, ← Int.neg_tdiv_neg, Int.tdiv_eq_ediv_of_nonneg (by omega)]
  · have h1 : (A.natAbs : Int) = -A := by omega
    have h2 : (B.natAbs : Int) = B := by omega
    rw [if_pos (by simp [hA]; omega), h1, h2, ← Int.neg_neg A, Int.neg_tdiv, Int.neg_neg, Int.tdiv_eq_ediv_of_nonneg (by omega)]
  · have h1 : (A.natAbs : Int) = A := by omega
    have h2 : (B.natAbs : Int) = -B := by omega
    rw [if_pos (by simp [hB]; omega), h1, h2, ← Int.neg_neg (A.tdiv B), ← Int.tdiv_neg, Int.tdiv_eq_ediv_of_nonneg (by omega)]
  · have h1 : (A.natAbs : Int) = A := by omega
    have h2 : (B.natAbs : Int) = B := by omega
    rw [if_neg (by simp; omega), h1, h2, Int.tdiv_eq_ediv_of_nonneg (by omega)]
theorem tmod_signs (A B : Int) : (if sgn A = true then -((A.natAbs : Int) % B.natAbs) else (A.natAbs : Int) % B.natAbs) = A.tmod B := by
  have e : ((A.natAbs : Int) % B.natAbs) = (A.natAbs : Int) % B := by
    rcases Int.lt_or_le B 0 with hB | hB
    · rw [show (B.natAbs : Int) = -B by omega, Int.emod_neg]
    · rw [show (B.natAbs : Int) = B by omega]
  rw [e]
  unfold sgn
  rcases Int.lt_or_le A 0 with hA | hA
  · rw [if_pos (by simp [hA]), show (A.natAbs : Int) = -A by omega, ← Int.tmod_eq_emod_of_nonneg (by omega), Int.neg_tmod, Int.neg_neg]
  · rw [if_neg (by simp; omega), show (A.natAbs : Int) = A by omega, Int.tmod_eq_emod_of_nonneg hA]

theorem pu_div {a b : Int} {e : Int} : Pu (.tuple ⟨[Zn a, Zn b, .int .i64 e]⟩) := .tuple (.cons pu_in (.cons pu_in (.cons (.ground rfl) .nil)))
theorem fz_nil {H : Heap} : FzRel Try.prog H (.agg ⟨[.bool false, Vv eU []]⟩) (.agg ⟨[.bool false, .slice none 0 0]⟩) := .nz (.agg (.cons .rfl (.cons .vnil .nil)))


theorem val_q (A B : Int) : val (lmb ((A.natAbs : Int) / B.natAbs)) = (A.natAbs : Int) / B.natAbs := by
  rw [val_z]; have := Int.ediv_nonneg (show (0 : Int) ≤ A.natAbs by omega) (show (0 : Int) ≤ B.natAbs by omega); omega
theorem val_r (A : Int) {B : Int} (h : B ≠ 0) : val (lmb ((A.natAbs : Int) % B.natAbs)) = (A.natAbs : Int) % B.natAbs := by
  rw [val_z]; have := Int.emod_nonneg (A.natAbs : Int) (show (B.natAbs : Int) ≠ 0 by omega); omega
theorem ln_quo (A B : Int) : ln ((A.natAbs : Int) / B.natAbs) ≤ ln A := ln_mono (by
  have := Int.ediv_nonneg (show (0 : Int) ≤ A.natAbs by omega) (show (0 : Int) ≤ B.natAbs by omega)
  have := Int.ediv_le_self (B.natAbs : Int) (show (0 : Int) ≤ A.natAbs by omega)
  omega)
theorem ln_rem (A : Int) {B : Int} (h : B ≠ 0) : ln ((A.natAbs : Int) % B.natAbs) ≤ ln B := ln_mono (by
  have := Int.emod_nonneg (A.natAbs : Int) (show (B.natAbs : Int) ≠ 0 by omega)
  have := Int.emod_lt_of_pos (A.natAbs : Int) (show (0 : Int) < (B.natAbs : Int) by omega)
  omega)

theorem p43z {n m : Bool} {l k : List Int} (h1 : Lb l) (h2 : Lb k) (h0 : den m k = 0) : PC Try.prog 18 [In n l, In m k] (.tuple ⟨[Zn 0, Zn 0, .int .i64 1]⟩) := by
  refine PC.of (.cons pu_in (.cons pu_in .nil)) pu_div fun N hN => ?_
  refine ACalls.of_code T.hm (n := 36) Try.func18 rfl rfl rfl rfl ?_; simp only [List.replicate_succ, List.replicate_zero, List.cons_append, List.nil_append]
  simp (maxSteps := 1000000) (disch := first | exact sd | fail) only [go_sem, Nat.reduceAdd, Nat.reduceSub, Nat.reduceLeDiff, ↓reduceIte, decide_eq_true_eq, if_true, if_false, Bool.false_eq_true, Int.lt_irrefl, implies_true, true_and, and_true, eq_self, and_self, beq_self_eq_true, aw_plan (id := 6) pl43_6, pl43_6]
  refine PC.step (p148 h1) fun m1 j1 => ?_
  try simp only [Heap.next_push, Heap.next_set, Heap.next_kill, next_bump, next_E0] at j1
  simp (maxSteps := 1000000) (disch := first | exact sd | fail) only [go_sem, Nat.reduceAdd, Nat.reduceSub, Nat.reduceLeDiff, ↓reduceIte, decide_eq_true_eq, if_true, if_false, Bool.false_eq_true, Int.lt_irrefl, implies_true, true_and, and_true, eq_self, and_self, beq_self_eq_true, aw_plan (id := 6) pl43_6, pl43_6]
  refine PC.step (p148 h2) fun m2 j2 => ?_
  try simp only [Heap.next_push, Heap.next_set, Heap.next_kill, next_bump, next_E0] at j2
  simp (maxSteps := 1000000) (disch := first | exact sd | fail) only [go_sem, Nat.reduceAdd, Nat.reduceSub, Nat.reduceLeDiff, ↓reduceIte, decide_eq_true_eq, if_true, if_false, Bool.false_eq_true, Int.lt_irrefl, implies_true, true_and, and_true, eq_self, and_self, beq_self_eq_true, aw_plan (id := 6) pl43_6, pl43_6, h0, lmb_zero, List.length_nil, ln_zero]
  exact .tuple (.cons fz_nil (.cons fz_nil (.cons .rfl .nil)))
theorem p43 {n m : Bool} {l k : List Int} (h1 : Lb l) (h2 : Lb k) (bA : ln (den n l) ≤ 2 ^ 39) (bB : ln (den m k) ≤ 2 ^ 39) (h0 : den m k ≠ 0) :
    PC Try.prog 18 [In n l, In m k] (.tuple ⟨[Zn ((den n l).tdiv (den m k)), Zn ((den n l).tmod (den m k)), .int .i64 0]⟩) := by
  refine PC.of (.cons pu_in (.cons pu_in .nil)) pu_div fun N hN => ?_
  have q1 := p148 (n := n) h1
  have q2 := p148 (n := m) h2
  generalize hA : den n l = A at *
  generalize hB : den m k = B at *
  have hne : ¬ (ln B : Int) = 0 := by rw [Int.ofNat_eq_zero, ln_eq_zero]; exact h0
  have lq := ln_quo A B
  have lr := ln_rem A h0
  refine ACalls.of_code T.hm (n := 36) Try.func18 rfl rfl rfl rfl ?_; simp only [List.replicate_succ, List.replicate_zero, List.cons_append, List.nil_append]
  simp (maxSteps := 1000000) (disch := first | exact sd | fail) only [go_sem, Nat.reduceAdd, Nat.reduceSub, Nat.reduceLeDiff, ↓reduceIte, decide_eq_true_eq, if_true, if_false, Bool.false_eq_true, Int.lt_irrefl, implies_true, true_and, and_true, eq_self, and_self, beq_self_eq_true, aw_plan (id := 6) pl43_6, pl43_6]
  refine PC.step (q1) fun m1 j1 => ?_
  try simp only [Heap.next_push, Heap.next_set, Heap.next_kill, next_bump, next_E0] at j1
  simp (maxSteps := 1000000) (disch := first | exact sd | fail) only [go_sem, Nat.reduceAdd, Nat.reduceSub, Nat.reduceLeDiff, ↓reduceIte, decide_eq_true_eq, if_true, if_false, Bool.false_eq_true, Int.lt_irrefl, implies_true, true_and, and_true, eq_self, and_self, beq_self_eq_true, aw_plan (id := 6) pl43_6, pl43_6]
  refine PC.step (q2) fun m2 j2 => ?_
  try simp only [Heap.next_push, Heap.next_set, Heap.next_kill, next_bump, next_E0] at j2
  simp (maxSteps := 1000000) (disch := first | exact sd | fail) only [go_sem, Nat.reduceAdd, Nat.reduceSub, Nat.reduceLeDiff, ↓reduceIte, decide_eq_true_eq, if_true, if_false, Bool.false_eq_true, Int.lt_irrefl, implies_true, true_and, and_true, eq_self, and_self, beq_self_eq_true, aw_plan (id := 6) pl43_6, pl43_6, hne]
  refine PC.step (p149 (A := (A.natAbs : Int)) (B := (B.natAbs : Int)) (by omega) (by omega) (by exact bA) (by exact bB)) fun m3 j3 => ?_
  try simp only [Heap.next_push, Heap.next_set, Heap.next_kill, next_bump, next_E0] at j3
  simp (maxSteps := 1000000) (disch := first | exact sd | fail) only [go_sem, Nat.reduceAdd, Nat.reduceSub, Nat.reduceLeDiff, ↓reduceIte, decide_eq_true_eq, if_true, if_false, Bool.false_eq_true, Int.lt_irrefl, implies_true, true_and, and_true, eq_self, and_self, beq_self_eq_true, aw_plan (id := 6) pl43_6, pl43_6]
  refine PC.step (p150 (lb_z (by omega))) fun m4 j4 => ?_
  try simp only [Heap.next_push, Heap.next_set, Heap.next_kill, next_bump, next_E0] at j4
  rw [val_q, tdiv_signs]
  simp (maxSteps := 1000000) (disch := first | exact sd | fail) only [go_sem, Nat.reduceAdd, Nat.reduceSub, Nat.reduceLeDiff, ↓reduceIte, decide_eq_true_eq, if_true, if_false, Bool.false_eq_true, Int.lt_irrefl, implies_true, true_and, and_true, eq_self, and_self, beq_self_eq_true, aw_plan (id := 6) pl43_6, pl43_6]
  refine PC.step (p150 (lb_z (by omega))) fun m5 j5 => ?_
  try simp only [Heap.next_push, Heap.next_set, Heap.next_kill, next_bump, next_E0] at j5
  rw [val_r A h0, tmod_signs]
  simp (maxSteps := 1000000) (disch := first | exact sd | fail) only [go_sem, Nat.reduceAdd, Nat.reduceSub, Nat.reduceLeDiff, ↓reduceIte, decide_eq_true_eq, if_true, if_false, Bool.false_eq_true, Int.lt_irrefl, implies_true, true_and, and_true, eq_self, and_self, beq_self_eq_true, aw_plan (id := 6) pl43_6, pl43_6]
  exact .rfl

theorem p47 {n m : Bool} {l k : List Int} (h1 : Lb l) (h2 : Lb k) (bA : ln (den n l) ≤ 2 ^ 39) (bB : ln (den m k) ≤ 2 ^ 39) :
    PC Try.prog 22 [In n l, In m k] (Zn (Int.gcd (den n l) (den m k))) := by
  refine PC.of (.cons pu_in (.cons pu_in .nil)) pu_in fun N hN => ?_
  have q1 := p148 (n := n) h1
  have q2 := p148 (n := m) h2
  generalize hA : den n l = A at *
  generalize hB : den m k = B at *
  refine ACalls.of_code T.hm (n := 26) Try.func22 rfl rfl rfl rfl ?_; simp only [List.replicate_succ, List.replicate_zero, List.cons_append, List.nil_append]
  simp (maxSteps := 1000000) (disch := first | exact sd | fail) only [go_sem, Nat.reduceAdd, Nat.reduceSub, Nat.reduceLeDiff, ↓reduceIte, decide_eq_true_eq, if_true, if_false, Bool.false_eq_true, Int.lt_irrefl, implies_true, true_and, and_true, eq_self, and_self, beq_self_eq_true, aw_plan (id := 1) pl47_1, pl47_1]
  refine PC.step (q1) fun m1 j1 => ?_
  try simp only [Heap.next_push, Heap.next_set, Heap.next_kill, next_bump, next_E0] at j1
  simp (maxSteps := 1000000) (disch := first | exact sd | fail) only [go_sem, Nat.reduceAdd, Nat.reduceSub, Nat.reduceLeDiff, ↓reduceIte, decide_eq_true_eq, if_true, if_false, Bool.false_eq_true, Int.lt_irrefl, implies_true, true_and, and_true, eq_self, and_self, beq_self_eq_true, aw_plan (id := 1) pl47_1, pl47_1]
  refine PC.step (q2) fun m2 j2 => ?_
  try simp only [Heap.next_push, Heap.next_set, Heap.next_kill, next_bump, next_E0] at j2
  simp (maxSteps := 1000000) (disch := first | exact sd | fail) only [go_sem, Nat.reduceAdd, Nat.reduceSub, Nat.reduceLeDiff, ↓reduceIte, decide_eq_true_eq, if_true, if_false, Bool.false_eq_true, Int.lt_irrefl, implies_true, true_and, and_true, eq_self, and_self, beq_self_eq_true, aw_plan (id := 1) pl47_1, pl47_1]
  refine aw_loopJ (σ := Int × Int) (fun s J => [J 0, J 1, J 2, J 3, .pointer (some ⟨N + 1 + 1, 0, none⟩), Vv eU (lmb s.1), Vv eU (lmb s.2), J 7, J 8, J 9, J 10, J 11, J 12, J 13, J 14, J 15, J 16, J 17, J 18, J 19, J 20, J 21, J 22, J 23, J 24, J 25, J 26, J 27]) (fun m s H1 => m = s.2.natAbs ∧ Int.gcd s.1 s.2 = Int.gcd A B ∧ ln s.1 ≤ 2 ^ 39 ∧ ln s.2 ≤ 2 ^ 39 ∧ H1.get (N + 1 + 1) = some (.row true 24 [.bool false, .slice none 0 0]) ∧ N + 1 + 1 < H1.next) B.natAbs (A, B) rfl ⟨rfl, rfl, bA, bB, by simp (maxSteps := 1000000) (disch := first | exact sd | fail) only [go_sem, Nat.reduceAdd, Nat.reduceSub, Nat.reduceLeDiff, ↓reduceIte, decide_eq_true_eq, if_true, if_false, Bool.false_eq_true, Int.lt_irrefl, implies_true, true_and, and_true, eq_self, and_self, beq_self_eq_true, aw_plan (id := 1) pl47_1, pl47_1], by simp (maxSteps := 1000000) (disch := first | exact sd | fail) only [go_sem, Nat.reduceAdd, Nat.reduceSub, Nat.reduceLeDiff, ↓reduceIte, decide_eq_true_eq, if_true, if_false, Bool.false_eq_true, Int.lt_irrefl, implies_true, true_and, and_true, eq_self, and_self, beq_self_eq_true, aw_plan (id := 1) pl47_1, pl47_1]; omega⟩ ?_
  rintro m ⟨X, Y⟩ J H1 ⟨rfl, hg, bX, bY, hg4, hn4⟩
  simp only at hg bX bY
  by_cases hY : Y = 0
  · have hl : (ln Y : Int) = 0 := by rw [hY, ln_zero]; rfl
    simp (maxSteps := 1000000) (disch := first | exact sd | fail) only [go_sem, Nat.reduceAdd, Nat.reduceSub, Nat.reduceLeDiff, ↓reduceIte, decide_eq_true_eq, if_true, if_false, Bool.false_eq_true, Int.lt_irrefl, implies_true, true_and, and_true, eq_self, and_self, beq_self_eq_true, aw_plan (id := 1) pl47_1, pl47_1, hl]
    refine PC.step (p150 (lb_z (by omega))) fun m3 j3 => ?_
    try simp only [Heap.next_push, Heap.next_set, Heap.next_kill, next_bump, next_E0] at j3
    have e : (if (false : Bool) = true then -(val (lmb X)) else val (lmb X)) = (Int.gcd A B : Int) := by
      rw [← hg, hY, val_z]; simp
    rw [e]
    simp (maxSteps := 1000000) (disch := first | exact sd | fail) only [go_sem, Nat.reduceAdd, Nat.reduceSub, Nat.reduceLeDiff, ↓reduceIte, decide_eq_true_eq, if_true, if_false, Bool.false_eq_true, Int.lt_irrefl, implies_true, true_and, and_true, eq_self, and_self, beq_self_eq_true, aw_plan (id := 1) pl47_1, pl47_1, hg4]
    exact .rfl
  · have hl : 0 < (ln Y : Int) := by have := ln_eq_zero (z := Y); omega
    have lr := ln_rem X hY
    simp (maxSteps := 1000000) (disch := first | exact sd | fail) only [go_sem, Nat.reduceAdd, Nat.reduceSub, Nat.reduceLeDiff, ↓reduceIte, decide_eq_true_eq, if_true, if_false, Bool.false_eq_true, Int.lt_irrefl, implies_true, true_and, and_true, eq_self, and_self, beq_self_eq_true, aw_plan (id := 1) pl47_1, pl47_1, hl]
    refine PC.step (p149 (A := (X.natAbs : Int)) (B := (Y.natAbs : Int)) (by omega) (by omega) (by exact bX) (by exact bY)) fun m3 j3 => ?_
    try simp only [Heap.next_push, Heap.next_set, Heap.next_kill, next_bump, next_E0] at j3
    simp (maxSteps := 1000000) (disch := first | exact sd | fail) only [go_sem, Nat.reduceAdd, Nat.reduceSub, Nat.reduceLeDiff, ↓reduceIte, decide_eq_true_eq, if_true, if_false, Bool.false_eq_true, Int.lt_irrefl, implies_true, true_and, and_true, eq_self, and_self, beq_self_eq_true, aw_plan (id := 1) pl47_1, pl47_1]
    have h1 := Int.emod_nonneg (X.natAbs : Int) (show (Y.natAbs : Int) ≠ 0 by omega)
    have h2 := Int.emod_lt_of_pos (X.natAbs : Int) (show (0 : Int) < (Y.natAbs : Int) by omega)
    refine IJ_intro (k := ((X.natAbs : Int) % Y.natAbs).natAbs) (by omega) (Y, (X.natAbs : Int) % Y.natAbs) rfl ⟨rfl, ?_, bY, by dsimp only; omega, by simp (maxSteps := 1000000) (disch := first | exact sd | fail) only [go_sem, Nat.reduceAdd, Nat.reduceSub, Nat.reduceLeDiff, ↓reduceIte, decide_eq_true_eq, if_true, if_false, Bool.false_eq_true, Int.lt_irrefl, implies_true, true_and, and_true, eq_self, and_self, beq_self_eq_true, aw_plan (id := 1) pl47_1, pl47_1, hg4], by simp (maxSteps := 1000000) (disch := first | exact sd | fail) only [go_sem, Nat.reduceAdd, Nat.reduceSub, Nat.reduceLeDiff, ↓reduceIte, decide_eq_true_eq, if_true, if_false, Bool.false_eq_true, Int.lt_irrefl, implies_true, true_and, and_true, eq_self, and_self, beq_self_eq_true, aw_plan (id := 1) pl47_1, pl47_1]; omega⟩
    rw [← hg]
    show Nat.gcd Y.natAbs ((X.natAbs : Int) % (Y.natAbs : Int)).natAbs = Nat.gcd X.natAbs Y.natAbs
    rw [show ((X.natAbs : Int) % (Y.natAbs : Int)).natAbs = X.natAbs % Y.natAbs from rfl, Nat.gcd_comm, ← Nat.gcd_rec, Nat.gcd_comm]
end Go.Abs
