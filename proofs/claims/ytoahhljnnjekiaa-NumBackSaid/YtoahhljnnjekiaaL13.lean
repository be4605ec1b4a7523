/- NumBack, on values. -/
import Derived.Test.YtoahhljnnjekiaaQc
set_option linter.unusedVariables false
set_option linter.unusedSimpArgs false
namespace Go.Abs
open Go Go.Proofs
set_option maxRecDepth 100000
set_option maxHeartbeats 40000000

def pl13_9 : Plan := ⟨[0, 1, 2, 6], [(3, [0], []), (4, [0], []), (5, [], []), (7, [], [])]⟩
def pl13_10 : Plan := ⟨[0, 1, 2, 6], [(3, [0], []), (4, [0], []), (5, [], []), (7, [], [])]⟩
def pl13_11 : Plan := ⟨[0], [(1, [], [2, 3, 4, 5, 7, 9]), (6, [9, 7], []), (8, [9], []), (10, [], [11, 12, 13, 14, 15]), (16, [], [17, 18, 19, 20, 21, 23, 24]), (22, [23], []), (25, [], [26, 27, 28, 29, 30]), (31, [], [32, 33, 34, 35]), (36, [], [37, 38, 39, 40, 41, 42, 43, 44, 45, 46, 47, 48, 49, 50, 51, 52, 53]), (54, [], [55, 56, 57]), (58, [], [59, 60])]⟩
theorem tdiv_back (A B : Int) : A.tdiv B * B + A.tmod B = A := by
  have := Int.tmod_add_mul_tdiv A B
  rw [Int.mul_comm (A.tdiv B)]; omega
theorem gcd_pos {A B : Int} (hB : B ≠ 0) : 0 < (Int.gcd A B : Int) := by
  have h : Int.gcd A B ≠ 0 := fun h => hB (Int.gcd_eq_zero_iff.1 h).2
  omega
theorem tmod_gcd_l (A B : Int) : A.tmod (Int.gcd A B) = 0 := Int.tmod_eq_zero_of_dvd (Int.gcd_dvd_left A B)
theorem tmod_gcd_r (A B : Int) : B.tmod (Int.gcd A B) = 0 := Int.tmod_eq_zero_of_dvd (Int.gcd_dvd_right A B)
theorem rest_lt {A B : Int} (hB : B ≠ 0) : A.tmod B * sg (A.tmod B) - B * sg B < 0 := by
  rw [mul_sg, mul_sg, Int.natAbs_tmod]
  have := Nat.mod_lt A.natAbs (show 0 < B.natAbs by omega)
  omega
theorem rest_sign (A B : Int) : 0 ≤ sg (A.tmod B) * sg A := by
  rcases Int.lt_or_le A 0 with h | h
  · have h1 : A.tmod B ≤ 0 := by
      have := Int.tmod_nonneg B (show 0 ≤ -A by omega)
      rw [Int.neg_tmod] at this; omega
    have h2 : sg A = -1 := by unfold sg; rw [if_pos h]
    rw [h2]
    have : sg (A.tmod B) ≤ 0 := by
      unfold sg; split
      · omega
      · split <;> omega
    omega
  · have h1 := Int.tmod_nonneg B h
    have h2 : 0 ≤ sg A := by
      unfold sg; split
      · omega
      · split <;> omega
    have h3 : 0 ≤ sg (A.tmod B) := by
      unfold sg; split
      · omega
      · split <;> omega
    exact Int.mul_nonneg h3 h2
theorem ln_gcd {A B : Int} {K : Nat} (hA : ln A ≤ K) (hB : ln B ≤ K) : ln (Int.gcd A B : Int) ≤ K := by
  by_cases h : A = 0
  · rw [h]; simp; exact Nat.le_trans (ln_mono (by omega)) hB
  · exact Nat.le_trans (ln_mono (by have := Int.gcd_le_natAbs_left B h; omega)) hA

theorem gen_call {P : Program} {g : FuncId} {args : List Value} {H : Heap} {K : Value → Heap → Prop} (h : ∀ G, G = H → ACalls P g args G K) : ACalls P g args H K := h H rfl

theorem q13 {n1 n2 : Bool} {l1 l2 : List Int} (k1 : Lim l1) (k2 : Lim l2) : PC Try.prog 3 [In n1 l1, In n2 l2] (.bool true) := by
  refine PC.of (.cons pu_in (.cons pu_in .nil)) (.ground rfl) fun N hN => ?_
  refine ACalls.of_code T.hm (n := 154) Try.func3 rfl rfl rfl rfl ?_; simp only [List.replicate_succ, List.replicate_zero, List.cons_append, List.nil_append]
  simp (maxSteps := 1000000) (disch := first | exact sd | fail) only [go_sem, Nat.reduceAdd, Nat.reduceSub, Nat.reduceLeDiff, ↓reduceIte, decide_eq_true_eq, if_true, if_false, Bool.false_eq_true, Int.lt_irrefl, implies_true, true_and, and_true, eq_self, and_self, beq_self_eq_true, aw_plan (id := 9) pl13_9, pl13_9, aw_plan (id := 10) pl13_10, pl13_10, aw_plan (id := 11) pl13_11, pl13_11]
  refine PC.peek1 (es := 2) (own := true) (el := 24) (cells := [.bool n1, Vv eU l1, .bool n2, Vv eU l2]) (by simp (maxSteps := 1000000) (disch := first | exact sd | fail) only [go_sem, Nat.reduceAdd, Nat.reduceSub, Nat.reduceLeDiff, ↓reduceIte, decide_eq_true_eq, if_true, if_false, Bool.false_eq_true, Int.lt_irrefl, implies_true, true_and, and_true, eq_self, and_self, beq_self_eq_true, aw_plan (id := 9) pl13_9, pl13_9, aw_plan (id := 10) pl13_10, pl13_10, aw_plan (id := 11) pl13_11, pl13_11]) (by simp (maxSteps := 1000000) (disch := first | exact sd | fail) only [go_sem, Nat.reduceAdd, Nat.reduceSub, Nat.reduceLeDiff, ↓reduceIte, decide_eq_true_eq, if_true, if_false, Bool.false_eq_true, Int.lt_irrefl, implies_true, true_and, and_true, eq_self, and_self, beq_self_eq_true, aw_plan (id := 9) pl13_9, pl13_9, aw_plan (id := 10) pl13_10, pl13_10, aw_plan (id := 11) pl13_11, pl13_11]; omega) (.inr (by unfold unk; omega)) (by decide) (.inr T.s24) rfl (p40 (ls := [⟨n1, l1⟩, ⟨n2, l2⟩]) (by simp)) rfl ?_
  simp only [List.any_cons, List.any_nil, Bool.or_false]
  by_cases big : 40 < l1.length ∨ 40 < l2.length
  · have hb : (decide (40 < l1.length) || decide (40 < l2.length)) = true := by simpa using big
    rw [hb]
    simp (maxSteps := 1000000) (disch := first | exact sd | fail) only [go_sem, Nat.reduceAdd, Nat.reduceSub, Nat.reduceLeDiff, ↓reduceIte, decide_eq_true_eq, if_true, if_false, Bool.false_eq_true, Int.lt_irrefl, implies_true, true_and, and_true, eq_self, and_self, beq_self_eq_true, aw_plan (id := 9) pl13_9, pl13_9, aw_plan (id := 10) pl13_10, pl13_10, aw_plan (id := 11) pl13_11, pl13_11]
    refine PC.step (p41) fun m1 j1 => ?_
    try simp only [Heap.next_push, Heap.next_set, Heap.next_kill, next_bump, next_E0] at j1
    simp (maxSteps := 1000000) (disch := first | exact sd | fail) only [go_sem, Nat.reduceAdd, Nat.reduceSub, Nat.reduceLeDiff, ↓reduceIte, decide_eq_true_eq, if_true, if_false, Bool.false_eq_true, Int.lt_irrefl, implies_true, true_and, and_true, eq_self, and_self, beq_self_eq_true, aw_plan (id := 9) pl13_9, pl13_9, aw_plan (id := 10) pl13_10, pl13_10, aw_plan (id := 11) pl13_11, pl13_11]
    exact .rfl
  have hb : (decide (40 < l1.length) || decide (40 < l2.length)) = false := by
    rw [Bool.or_eq_false_iff]; exact ⟨by simp; omega, by simp; omega⟩
  rw [hb]
  by_cases g1 : (12 : Int) < l1.length
  · simp (maxSteps := 1000000) (disch := first | exact sd | fail) only [go_sem, Nat.reduceAdd, Nat.reduceSub, Nat.reduceLeDiff, ↓reduceIte, decide_eq_true_eq, if_true, if_false, Bool.false_eq_true, Int.lt_irrefl, implies_true, true_and, and_true, eq_self, and_self, beq_self_eq_true, aw_plan (id := 9) pl13_9, pl13_9, aw_plan (id := 10) pl13_10, pl13_10, aw_plan (id := 11) pl13_11, pl13_11, g1]
    refine PC.step (p41) fun m1 j1 => ?_
    try simp only [Heap.next_push, Heap.next_set, Heap.next_kill, next_bump, next_E0] at j1
    simp (maxSteps := 1000000) (disch := first | exact sd | fail) only [go_sem, Nat.reduceAdd, Nat.reduceSub, Nat.reduceLeDiff, ↓reduceIte, decide_eq_true_eq, if_true, if_false, Bool.false_eq_true, Int.lt_irrefl, implies_true, true_and, and_true, eq_self, and_self, beq_self_eq_true, aw_plan (id := 9) pl13_9, pl13_9, aw_plan (id := 10) pl13_10, pl13_10, aw_plan (id := 11) pl13_11, pl13_11]
    exact .rfl
  by_cases g2 : (12 : Int) < l2.length
  · simp (maxSteps := 1000000) (disch := first | exact sd | fail) only [go_sem, Nat.reduceAdd, Nat.reduceSub, Nat.reduceLeDiff, ↓reduceIte, decide_eq_true_eq, if_true, if_false, Bool.false_eq_true, Int.lt_irrefl, implies_true, true_and, and_true, eq_self, and_self, beq_self_eq_true, aw_plan (id := 9) pl13_9, pl13_9, aw_plan (id := 10) pl13_10, pl13_10, aw_plan (id := 11) pl13_11, pl13_11, g1, g2]
    refine PC.step (p41) fun m1 j1 => ?_
    try simp only [Heap.next_push, Heap.next_set, Heap.next_kill, next_bump, next_E0] at j1
    simp (maxSteps := 1000000) (disch := first | exact sd | fail) only [go_sem, Nat.reduceAdd, Nat.reduceSub, Nat.reduceLeDiff, ↓reduceIte, decide_eq_true_eq, if_true, if_false, Bool.false_eq_true, Int.lt_irrefl, implies_true, true_and, and_true, eq_self, and_self, beq_self_eq_true, aw_plan (id := 9) pl13_9, pl13_9, aw_plan (id := 10) pl13_10, pl13_10, aw_plan (id := 11) pl13_11, pl13_11]
    exact .rfl
  have b1 : Lb l1 := ⟨k1, by omega⟩
  have b2 : Lb l2 := ⟨k2, by omega⟩
  have lA : ln (den n1 l1) ≤ 12 := by have := ln_den (n := n1) k1; omega
  have lB : ln (den n2 l2) ≤ 12 := by have := ln_den (n := n2) k2; omega
  simp (maxSteps := 1000000) (disch := first | exact sd | fail) only [go_sem, Nat.reduceAdd, Nat.reduceSub, Nat.reduceLeDiff, ↓reduceIte, decide_eq_true_eq, if_true, if_false, Bool.false_eq_true, Int.lt_irrefl, implies_true, true_and, and_true, eq_self, and_self, beq_self_eq_true, aw_plan (id := 9) pl13_9, pl13_9, aw_plan (id := 10) pl13_10, pl13_10, aw_plan (id := 11) pl13_11, pl13_11, g1, g2]
  have q42 := fun (h0 : den n2 l2 ≠ 0) => p42 (n := n1) (m := n2) b1 b2 (by omega) (by omega) h0
  have q42z := fun (h0 : den n2 l2 = 0) => p42z (n := n1) (m := n2) b1 b2 h0
  have q46 := p46 (n := n1) (m := n2) b1 b2 (by omega) (by omega)
  have qAg := fun (c : Int) (hc : ln c ≤ 2 ^ 39) (h0 : c ≠ 0) => p42 (n := n1) (l := l1) (m := sgn c) (k := lmb c) b1 (lb_z (by omega)) (by omega) (by rw [den_z]; exact hc) (by rw [den_z]; exact h0)
  have qBg := fun (c : Int) (hc : ln c ≤ 2 ^ 39) (h0 : c ≠ 0) => p42 (n := n2) (l := l2) (m := sgn c) (k := lmb c) b2 (lb_z (by omega)) (by omega) (by rw [den_z]; exact hc) (by rw [den_z]; exact h0)
  have q55n := fun (H : Heap) (K : Value → Heap → Prop) => s55n (H := H) (K := K) (n := n2) b2
  have q55a := fun (H : Heap) (K : Value → Heap → Prop) => s55n (H := H) (K := K) (n := n1) b1
  have qBs := fun (c : Int) (hc : ln c ≤ 2 ^ 39) => p54 (n := n2) (l := l2) (m := sgn c) (k := lmb c) b2 (lb_z (by omega))
  have qsB := fun (c : Int) (hc : ln c ≤ 2 ^ 39) => p54 (n := sgn c) (l := lmb c) (m := n2) (k := l2) (lb_z (by omega)) b2
  have q55 := fun (c : Int) (hc : ln c ≤ 2 ^ 39) => p55 (n := sgn c) (l := lmb c) (m := n1) (lb_z (by omega)) b1
  generalize den n1 l1 = A at *
  generalize den n2 l2 = B at *
  have e1 := ln_tdiv A B
  have e2 := ln_tmod A B
  have lg := ln_gcd lA lB
  have lz : ln (0 : Int) ≤ 2 ^ 39 := by rw [ln_zero]; omega
  have s1 := ln_sg B
  have s2 := ln_sg (A.tmod B)
  have e3 := ln_mul B (sg B)
  have e4 := ln_mul (A.tmod B) (sg (A.tmod B))
  have e5 := ln_mul (A.tdiv B) B
  have e6 := ln_add (A.tdiv B * B) (A.tmod B)
  have e7 := ln_tdiv A (Int.gcd A B)
  have e8 := ln_tdiv B (Int.gcd A B)
  by_cases hB : B = 0
  · have h0 : 0 ≤ sg (Int.gcd A B : Int) := by
      unfold sg; split
      · omega
      · split <;> omega
    rw [hB] at h0
    have tg := fun (H : Heap) (K : Value → Heap → Prop) => s55n (H := H) (K := K) (n := sgn (Int.gcd A B)) (l := lmb (Int.gcd A B)) (lb_z (z := (Int.gcd A B : Int)) (by omega))
    clear e1 e2 e3 e4 e5 e6 e7 e8 lg lz s1 s2 g1 g2 lA lB big qAg qBg qBs qsB q55 q42
    have q42z := q42z hB
    refine PC.step (q42z) fun m1 j1 => ?_
    try simp only [Heap.next_push, Heap.next_set, Heap.next_kill, next_bump, next_E0] at j1
    simp (maxSteps := 1000000) (disch := first | exact sd | fail) only [go_sem, Nat.reduceAdd, Nat.reduceSub, Nat.reduceLeDiff, ↓reduceIte, decide_eq_true_eq, if_true, if_false, Bool.false_eq_true, Int.lt_irrefl, implies_true, true_and, and_true, eq_self, and_self, beq_self_eq_true, aw_plan (id := 9) pl13_9, pl13_9, aw_plan (id := 10) pl13_10, pl13_10, aw_plan (id := 11) pl13_11, pl13_11]
    refine PC.step (q46) fun m2 j2 => ?_
    try simp only [Heap.next_push, Heap.next_set, Heap.next_kill, next_bump, next_E0] at j2
    simp (maxSteps := 1000000) (disch := first | exact sd | fail) only [go_sem, Nat.reduceAdd, Nat.reduceSub, Nat.reduceLeDiff, ↓reduceIte, decide_eq_true_eq, if_true, if_false, Bool.false_eq_true, Int.lt_irrefl, implies_true, true_and, and_true, eq_self, and_self, beq_self_eq_true, aw_plan (id := 9) pl13_9, pl13_9, aw_plan (id := 10) pl13_10, pl13_10, aw_plan (id := 11) pl13_11, pl13_11]
    refine q55n _ _ fun m3 j3 => ?_
    try simp only [Heap.next_push, Heap.next_set, Heap.next_kill, next_bump, next_E0] at j3
    simp (maxSteps := 1000000) (disch := first | exact sd | fail) only [go_sem, Nat.reduceAdd, Nat.reduceSub, Nat.reduceLeDiff, ↓reduceIte, decide_eq_true_eq, if_true, if_false, Bool.false_eq_true, Int.lt_irrefl, implies_true, true_and, and_true, eq_self, and_self, beq_self_eq_true, aw_plan (id := 9) pl13_9, pl13_9, aw_plan (id := 10) pl13_10, pl13_10, aw_plan (id := 11) pl13_11, pl13_11, hB]
    refine PC.step (p45) fun m4 j4 => ?_
    try simp only [Heap.next_push, Heap.next_set, Heap.next_kill, next_bump, next_E0] at j4
    simp (maxSteps := 1000000) (disch := first | exact sd | fail) only [go_sem, Nat.reduceAdd, Nat.reduceSub, Nat.reduceLeDiff, ↓reduceIte, decide_eq_true_eq, if_true, if_false, Bool.false_eq_true, Int.lt_irrefl, implies_true, true_and, and_true, eq_self, and_self, beq_self_eq_true, aw_plan (id := 9) pl13_9, pl13_9, aw_plan (id := 10) pl13_10, pl13_10, aw_plan (id := 11) pl13_11, pl13_11]
    refine s44n rfl fun m5 j5 => ?_
    try simp only [Heap.next_push, Heap.next_set, Heap.next_kill, next_bump, next_E0] at j5
    simp (maxSteps := 1000000) (disch := first | exact sd | fail) only [go_sem, Nat.reduceAdd, Nat.reduceSub, Nat.reduceLeDiff, ↓reduceIte, decide_eq_true_eq, if_true, if_false, Bool.false_eq_true, Int.lt_irrefl, implies_true, true_and, and_true, eq_self, and_self, beq_self_eq_true, aw_plan (id := 9) pl13_9, pl13_9, aw_plan (id := 10) pl13_10, pl13_10, aw_plan (id := 11) pl13_11, pl13_11]
    refine s44n rfl fun m6 j6 => ?_
    try simp only [Heap.next_push, Heap.next_set, Heap.next_kill, next_bump, next_E0] at j6
    simp (maxSteps := 1000000) (disch := first | exact sd | fail) only [go_sem, Nat.reduceAdd, Nat.reduceSub, Nat.reduceLeDiff, ↓reduceIte, decide_eq_true_eq, if_true, if_false, Bool.false_eq_true, Int.lt_irrefl, implies_true, true_and, and_true, eq_self, and_self, beq_self_eq_true, aw_plan (id := 9) pl13_9, pl13_9, aw_plan (id := 10) pl13_10, pl13_10, aw_plan (id := 11) pl13_11, pl13_11]
    rw [hB] at tg
    refine tg _ _ fun m7 j7 => ?_
    try simp only [Heap.next_push, Heap.next_set, Heap.next_kill, next_bump, next_E0] at j7
    simp (maxSteps := 1000000) (disch := first | exact sd | fail) only [go_sem, Nat.reduceAdd, Nat.reduceSub, Nat.reduceLeDiff, ↓reduceIte, decide_eq_true_eq, if_true, if_false, Bool.false_eq_true, Int.lt_irrefl, implies_true, true_and, and_true, eq_self, and_self, beq_self_eq_true, aw_plan (id := 9) pl13_9, pl13_9, aw_plan (id := 10) pl13_10, pl13_10, aw_plan (id := 11) pl13_11, pl13_11, h0]
    refine PC.step (p41) fun m8 j8 => ?_
    try simp only [Heap.next_push, Heap.next_set, Heap.next_kill, next_bump, next_E0] at j8
    simp (maxSteps := 1000000) (disch := first | exact sd | fail) only [go_sem, Nat.reduceAdd, Nat.reduceSub, Nat.reduceLeDiff, ↓reduceIte, decide_eq_true_eq, if_true, if_false, Bool.false_eq_true, Int.lt_irrefl, implies_true, true_and, and_true, eq_self, and_self, beq_self_eq_true, aw_plan (id := 9) pl13_9, pl13_9, aw_plan (id := 10) pl13_10, pl13_10, aw_plan (id := 11) pl13_11, pl13_11]
    exact .rfl
  · have hg := gcd_pos (A := A) hB
    have f3 : ¬ sg B = 0 := fun h => hB (sg_eq0.1 h)
    have hr : sg (A.tmod B * sg (A.tmod B) - B * sg B) < 0 := sg_neg.2 (rest_lt hB)
    have hs := rest_sign A B
    have hw : IntKind.i64.wrap (sg (A.tmod B) * sg A) = sg (A.tmod B) * sg A := wrap_i64 (by omega) (by
      have h1 : sg (A.tmod B) ≤ 1 ∧ -1 ≤ sg (A.tmod B) := by
        unfold sg; split
        · omega
        · split <;> omega
      have h2 : sg A = -1 ∨ sg A = 0 ∨ sg A = 1 := by
        unfold sg; split
        · omega
        · split <;> omega
      rcases h2 with h2 | h2 | h2 <;> rw [h2] <;> omega)
    have hgp : 0 < sg (Int.gcd A B : Int) := sg_pos.2 hg
    have w4 := qAg (Int.gcd A B) (by omega) (by omega)
    have w5 := qBg (Int.gcd A B) (by omega) (by omega)
    have w7 := p50 (sg_bd B)
    have w8 := qBs (sg B) (by omega)
    have w9 := fun (H : Heap) (K : Value → Heap → Prop) => s55n (H := H) (K := K) (n := sgn (A.tmod B)) (l := lmb (A.tmod B)) (lb_z (z := A.tmod B) (by omega))
    have w10 := p50 (sg_bd (A.tmod B))
    have w11 := p54 (n := sgn (A.tmod B)) (l := lmb (A.tmod B)) (m := sgn (sg (A.tmod B))) (k := lmb (sg (A.tmod B))) (lb_z (z := A.tmod B) (by omega)) (lb_z (z := sg (A.tmod B)) (by omega))
    have w13 := qsB (A.tdiv B) (by omega)
    have w14 := p60 (n := sgn (A.tdiv B * B)) (l := lmb (A.tdiv B * B)) (m := sgn (A.tmod B)) (k := lmb (A.tmod B)) (lb_z (z := A.tdiv B * B) (by omega)) (lb_z (z := A.tmod B) (by omega))
    have w15 := q55 A (by omega)
    have w16 := p55 (n := sgn (A.tmod B * sg (A.tmod B))) (l := lmb (A.tmod B * sg (A.tmod B))) (m := sgn (B * sg B)) (k := lmb (B * sg B)) (lb_z (z := A.tmod B * sg (A.tmod B)) (by omega)) (lb_z (z := B * sg B) (by omega))
    have w21 := fun (H : Heap) (K : Value → Heap → Prop) => s55n (H := H) (K := K) (n := sgn (Int.gcd A B)) (l := lmb (Int.gcd A B)) (lb_z (z := (Int.gcd A B : Int)) (by omega))
    rw [den_z] at w4 w5 w8 w13 w15
    rw [den_z, den_z] at w11 w14 w16
    clear e1 e2 e3 e4 e5 e6 e7 e8 lg lz s1 s2 g1 g2 lA lB big qAg qBg qBs qsB q55 q42z
    have q42 := q42 hB
    clear hg
    refine PC.step (q42) fun m1 j1 => ?_
    try simp only [Heap.next_push, Heap.next_set, Heap.next_kill, next_bump, next_E0] at j1
    simp (maxSteps := 1000000) (disch := first | exact sd | fail) only [go_sem, Nat.reduceAdd, Nat.reduceSub, Nat.reduceLeDiff, ↓reduceIte, decide_eq_true_eq, if_true, if_false, Bool.false_eq_true, Int.lt_irrefl, implies_true, true_and, and_true, eq_self, and_self, beq_self_eq_true, aw_plan (id := 9) pl13_9, pl13_9, aw_plan (id := 10) pl13_10, pl13_10, aw_plan (id := 11) pl13_11, pl13_11]
    refine PC.step (q46) fun m2 j2 => ?_
    try simp only [Heap.next_push, Heap.next_set, Heap.next_kill, next_bump, next_E0] at j2
    simp (maxSteps := 1000000) (disch := first | exact sd | fail) only [go_sem, Nat.reduceAdd, Nat.reduceSub, Nat.reduceLeDiff, ↓reduceIte, decide_eq_true_eq, if_true, if_false, Bool.false_eq_true, Int.lt_irrefl, implies_true, true_and, and_true, eq_self, and_self, beq_self_eq_true, aw_plan (id := 9) pl13_9, pl13_9, aw_plan (id := 10) pl13_10, pl13_10, aw_plan (id := 11) pl13_11, pl13_11]
    refine q55n _ _ fun m3 j3 => ?_
    try simp only [Heap.next_push, Heap.next_set, Heap.next_kill, next_bump, next_E0] at j3
    simp (maxSteps := 1000000) (disch := first | exact sd | fail) only [go_sem, Nat.reduceAdd, Nat.reduceSub, Nat.reduceLeDiff, ↓reduceIte, decide_eq_true_eq, if_true, if_false, Bool.false_eq_true, Int.lt_irrefl, implies_true, true_and, and_true, eq_self, and_self, beq_self_eq_true, aw_plan (id := 9) pl13_9, pl13_9, aw_plan (id := 10) pl13_10, pl13_10, aw_plan (id := 11) pl13_11, pl13_11, f3]
    refine PC.step (w4) fun m4 j4 => ?_
    try simp only [Heap.next_push, Heap.next_set, Heap.next_kill, next_bump, next_E0] at j4
    simp (maxSteps := 1000000) (disch := first | exact sd | fail) only [go_sem, Nat.reduceAdd, Nat.reduceSub, Nat.reduceLeDiff, ↓reduceIte, decide_eq_true_eq, if_true, if_false, Bool.false_eq_true, Int.lt_irrefl, implies_true, true_and, and_true, eq_self, and_self, beq_self_eq_true, aw_plan (id := 9) pl13_9, pl13_9, aw_plan (id := 10) pl13_10, pl13_10, aw_plan (id := 11) pl13_11, pl13_11, tmod_gcd_l]
    refine PC.step (w5) fun m5 j5 => ?_
    try simp only [Heap.next_push, Heap.next_set, Heap.next_kill, next_bump, next_E0] at j5
    simp (maxSteps := 1000000) (disch := first | exact sd | fail) only [go_sem, Nat.reduceAdd, Nat.reduceSub, Nat.reduceLeDiff, ↓reduceIte, decide_eq_true_eq, if_true, if_false, Bool.false_eq_true, Int.lt_irrefl, implies_true, true_and, and_true, eq_self, and_self, beq_self_eq_true, aw_plan (id := 9) pl13_9, pl13_9, aw_plan (id := 10) pl13_10, pl13_10, aw_plan (id := 11) pl13_11, pl13_11, tmod_gcd_r]
    refine q55n _ _ fun m6 j6 => ?_
    try simp only [Heap.next_push, Heap.next_set, Heap.next_kill, next_bump, next_E0] at j6
    simp (maxSteps := 1000000) (disch := first | exact sd | fail) only [go_sem, Nat.reduceAdd, Nat.reduceSub, Nat.reduceLeDiff, ↓reduceIte, decide_eq_true_eq, if_true, if_false, Bool.false_eq_true, Int.lt_irrefl, implies_true, true_and, and_true, eq_self, and_self, beq_self_eq_true, aw_plan (id := 9) pl13_9, pl13_9, aw_plan (id := 10) pl13_10, pl13_10, aw_plan (id := 11) pl13_11, pl13_11]
    refine PC.step (w7) fun m7 j7 => ?_
    try simp only [Heap.next_push, Heap.next_set, Heap.next_kill, next_bump, next_E0] at j7
    simp (maxSteps := 1000000) (disch := first | exact sd | fail) only [go_sem, Nat.reduceAdd, Nat.reduceSub, Nat.reduceLeDiff, ↓reduceIte, decide_eq_true_eq, if_true, if_false, Bool.false_eq_true, Int.lt_irrefl, implies_true, true_and, and_true, eq_self, and_self, beq_self_eq_true, aw_plan (id := 9) pl13_9, pl13_9, aw_plan (id := 10) pl13_10, pl13_10, aw_plan (id := 11) pl13_11, pl13_11]
    refine PC.step (w8) fun m8 j8 => ?_
    try simp only [Heap.next_push, Heap.next_set, Heap.next_kill, next_bump, next_E0] at j8
    simp (maxSteps := 1000000) (disch := first | exact sd | fail) only [go_sem, Nat.reduceAdd, Nat.reduceSub, Nat.reduceLeDiff, ↓reduceIte, decide_eq_true_eq, if_true, if_false, Bool.false_eq_true, Int.lt_irrefl, implies_true, true_and, and_true, eq_self, and_self, beq_self_eq_true, aw_plan (id := 9) pl13_9, pl13_9, aw_plan (id := 10) pl13_10, pl13_10, aw_plan (id := 11) pl13_11, pl13_11]
    refine w9 _ _ fun m9 j9 => ?_
    try simp only [Heap.next_push, Heap.next_set, Heap.next_kill, next_bump, next_E0] at j9
    simp (maxSteps := 1000000) (disch := first | exact sd | fail) only [go_sem, Nat.reduceAdd, Nat.reduceSub, Nat.reduceLeDiff, ↓reduceIte, decide_eq_true_eq, if_true, if_false, Bool.false_eq_true, Int.lt_irrefl, implies_true, true_and, and_true, eq_self, and_self, beq_self_eq_true, aw_plan (id := 9) pl13_9, pl13_9, aw_plan (id := 10) pl13_10, pl13_10, aw_plan (id := 11) pl13_11, pl13_11]
    refine PC.step (w10) fun m10 j10 => ?_
    try simp only [Heap.next_push, Heap.next_set, Heap.next_kill, next_bump, next_E0] at j10
    simp (maxSteps := 1000000) (disch := first | exact sd | fail) only [go_sem, Nat.reduceAdd, Nat.reduceSub, Nat.reduceLeDiff, ↓reduceIte, decide_eq_true_eq, if_true, if_false, Bool.false_eq_true, Int.lt_irrefl, implies_true, true_and, and_true, eq_self, and_self, beq_self_eq_true, aw_plan (id := 9) pl13_9, pl13_9, aw_plan (id := 10) pl13_10, pl13_10, aw_plan (id := 11) pl13_11, pl13_11]
    refine PC.step (w11) fun m11 j11 => ?_
    try simp only [Heap.next_push, Heap.next_set, Heap.next_kill, next_bump, next_E0] at j11
    simp (maxSteps := 1000000) (disch := first | exact sd | fail) only [go_sem, Nat.reduceAdd, Nat.reduceSub, Nat.reduceLeDiff, ↓reduceIte, decide_eq_true_eq, if_true, if_false, Bool.false_eq_true, Int.lt_irrefl, implies_true, true_and, and_true, eq_self, and_self, beq_self_eq_true, aw_plan (id := 9) pl13_9, pl13_9, aw_plan (id := 10) pl13_10, pl13_10, aw_plan (id := 11) pl13_11, pl13_11]
    refine gen_call fun G hG => ?_
    have g1 : G.get N = some (.row true 24 [.bool n1, Vv eU l1]) := by rw [hG]; simp (maxSteps := 1000000) (disch := first | exact sd | fail) only [go_sem, Nat.reduceAdd, Nat.reduceSub, Nat.reduceLeDiff, ↓reduceIte, decide_eq_true_eq, if_true, if_false, Bool.false_eq_true, Int.lt_irrefl, implies_true, true_and, and_true, eq_self, and_self, beq_self_eq_true, aw_plan (id := 9) pl13_9, pl13_9, aw_plan (id := 10) pl13_10, pl13_10, aw_plan (id := 11) pl13_11, pl13_11]
    have g2 : G.get (N + 1) = some (.row true 24 [.bool n2, Vv eU l2]) := by rw [hG]; simp (maxSteps := 1000000) (disch := first | exact sd | fail) only [go_sem, Nat.reduceAdd, Nat.reduceSub, Nat.reduceLeDiff, ↓reduceIte, decide_eq_true_eq, if_true, if_false, Bool.false_eq_true, Int.lt_irrefl, implies_true, true_and, and_true, eq_self, and_self, beq_self_eq_true, aw_plan (id := 9) pl13_9, pl13_9, aw_plan (id := 10) pl13_10, pl13_10, aw_plan (id := 11) pl13_11, pl13_11]
    have g3 : G.get m1 = some (.row true 24 [.bool (sgn (A.tdiv B)), Vv eU (lmb (A.tdiv B))]) := by rw [hG]; simp (maxSteps := 1000000) (disch := first | exact sd | fail) only [go_sem, Nat.reduceAdd, Nat.reduceSub, Nat.reduceLeDiff, ↓reduceIte, decide_eq_true_eq, if_true, if_false, Bool.false_eq_true, Int.lt_irrefl, implies_true, true_and, and_true, eq_self, and_self, beq_self_eq_true, aw_plan (id := 9) pl13_9, pl13_9, aw_plan (id := 10) pl13_10, pl13_10, aw_plan (id := 11) pl13_11, pl13_11]
    have g4 : G.get (m1 + 1) = some (.row true 24 [.bool (sgn (A.tmod B)), Vv eU (lmb (A.tmod B))]) := by rw [hG]; simp (maxSteps := 1000000) (disch := first | exact sd | fail) only [go_sem, Nat.reduceAdd, Nat.reduceSub, Nat.reduceLeDiff, ↓reduceIte, decide_eq_true_eq, if_true, if_false, Bool.false_eq_true, Int.lt_irrefl, implies_true, true_and, and_true, eq_self, and_self, beq_self_eq_true, aw_plan (id := 9) pl13_9, pl13_9, aw_plan (id := 10) pl13_10, pl13_10, aw_plan (id := 11) pl13_11, pl13_11]
    have g5 : G.get m2 = some (.row true 24 [.bool (sgn (Int.gcd A B : Int)), Vv eU (lmb (Int.gcd A B : Int))]) := by rw [hG]; simp (maxSteps := 1000000) (disch := first | exact sd | fail) only [go_sem, Nat.reduceAdd, Nat.reduceSub, Nat.reduceLeDiff, ↓reduceIte, decide_eq_true_eq, if_true, if_false, Bool.false_eq_true, Int.lt_irrefl, implies_true, true_and, and_true, eq_self, and_self, beq_self_eq_true, aw_plan (id := 9) pl13_9, pl13_9, aw_plan (id := 10) pl13_10, pl13_10, aw_plan (id := 11) pl13_11, pl13_11]
    have g7 : G.get (m4 + 1) = some (.row true 24 [.bool (sgn 0), Vv eU (lmb 0)]) := by rw [hG]; simp (maxSteps := 1000000) (disch := first | exact sd | fail) only [go_sem, Nat.reduceAdd, Nat.reduceSub, Nat.reduceLeDiff, ↓reduceIte, decide_eq_true_eq, if_true, if_false, Bool.false_eq_true, Int.lt_irrefl, implies_true, true_and, and_true, eq_self, and_self, beq_self_eq_true, aw_plan (id := 9) pl13_9, pl13_9, aw_plan (id := 10) pl13_10, pl13_10, aw_plan (id := 11) pl13_11, pl13_11]
    have g8 : G.get (m5 + 1) = some (.row true 24 [.bool (sgn 0), Vv eU (lmb 0)]) := by rw [hG]; simp (maxSteps := 1000000) (disch := first | exact sd | fail) only [go_sem, Nat.reduceAdd, Nat.reduceSub, Nat.reduceLeDiff, ↓reduceIte, decide_eq_true_eq, if_true, if_false, Bool.false_eq_true, Int.lt_irrefl, implies_true, true_and, and_true, eq_self, and_self, beq_self_eq_true, aw_plan (id := 9) pl13_9, pl13_9, aw_plan (id := 10) pl13_10, pl13_10, aw_plan (id := 11) pl13_11, pl13_11]
    have g9 : G.get (m5 + 1 + 1) = some (.row true 24 [.bool (sgn (B * sg B)), Vv eU (lmb (B * sg B))]) := by rw [hG]; simp (maxSteps := 1000000) (disch := first | exact sd | fail) only [go_sem, Nat.reduceAdd, Nat.reduceSub, Nat.reduceLeDiff, ↓reduceIte, decide_eq_true_eq, if_true, if_false, Bool.false_eq_true, Int.lt_irrefl, implies_true, true_and, and_true, eq_self, and_self, beq_self_eq_true, aw_plan (id := 9) pl13_9, pl13_9, aw_plan (id := 10) pl13_10, pl13_10, aw_plan (id := 11) pl13_11, pl13_11]
    have g10 : G.get m8 = some (.row true 24 [.bool (sgn (A.tmod B * sg (A.tmod B))), Vv eU (lmb (A.tmod B * sg (A.tmod B)))]) := by rw [hG]; simp (maxSteps := 1000000) (disch := first | exact sd | fail) only [go_sem, Nat.reduceAdd, Nat.reduceSub, Nat.reduceLeDiff, ↓reduceIte, decide_eq_true_eq, if_true, if_false, Bool.false_eq_true, Int.lt_irrefl, implies_true, true_and, and_true, eq_self, and_self, beq_self_eq_true, aw_plan (id := 9) pl13_9, pl13_9, aw_plan (id := 10) pl13_10, pl13_10, aw_plan (id := 11) pl13_11, pl13_11]
    have nG : m11 ≤ G.next := by rw [hG]; simp only [Heap.next_push, Heap.next_set, Heap.next_kill, next_bump]; omega
    clear hG
    refine PC.step (p45) fun m12 j12 => ?_
    try simp only [Heap.next_push, Heap.next_set, Heap.next_kill, next_bump, next_E0] at j12
    simp (maxSteps := 1000000) (disch := first | exact sd | fail) only [go_sem, Nat.reduceAdd, Nat.reduceSub, Nat.reduceLeDiff, ↓reduceIte, decide_eq_true_eq, if_true, if_false, Bool.false_eq_true, Int.lt_irrefl, implies_true, true_and, and_true, eq_self, and_self, beq_self_eq_true, aw_plan (id := 9) pl13_9, pl13_9, aw_plan (id := 10) pl13_10, pl13_10, aw_plan (id := 11) pl13_11, pl13_11, g1, g2, g3, g4, g5, g7, g8, g9, g10]
    refine PC.step (w13) fun m13 j13 => ?_
    try simp only [Heap.next_push, Heap.next_set, Heap.next_kill, next_bump, next_E0] at j13
    simp (maxSteps := 1000000) (disch := first | exact sd | fail) only [go_sem, Nat.reduceAdd, Nat.reduceSub, Nat.reduceLeDiff, ↓reduceIte, decide_eq_true_eq, if_true, if_false, Bool.false_eq_true, Int.lt_irrefl, implies_true, true_and, and_true, eq_self, and_self, beq_self_eq_true, aw_plan (id := 9) pl13_9, pl13_9, aw_plan (id := 10) pl13_10, pl13_10, aw_plan (id := 11) pl13_11, pl13_11, g1, g2, g3, g4, g5, g7, g8, g9, g10]
    refine PC.step (w14) fun m14 j14 => ?_
    try simp only [Heap.next_push, Heap.next_set, Heap.next_kill, next_bump, next_E0] at j14
    simp (maxSteps := 1000000) (disch := first | exact sd | fail) only [go_sem, Nat.reduceAdd, Nat.reduceSub, Nat.reduceLeDiff, ↓reduceIte, decide_eq_true_eq, if_true, if_false, Bool.false_eq_true, Int.lt_irrefl, implies_true, true_and, and_true, eq_self, and_self, beq_self_eq_true, aw_plan (id := 9) pl13_9, pl13_9, aw_plan (id := 10) pl13_10, pl13_10, aw_plan (id := 11) pl13_11, pl13_11, g1, g2, g3, g4, g5, g7, g8, g9, g10, tdiv_back]
    refine PC.step (w15) fun m15 j15 => ?_
    try simp only [Heap.next_push, Heap.next_set, Heap.next_kill, next_bump, next_E0] at j15
    simp (maxSteps := 1000000) (disch := first | exact sd | fail) only [go_sem, Nat.reduceAdd, Nat.reduceSub, Nat.reduceLeDiff, ↓reduceIte, decide_eq_true_eq, if_true, if_false, Bool.false_eq_true, Int.lt_irrefl, implies_true, true_and, and_true, eq_self, and_self, beq_self_eq_true, aw_plan (id := 9) pl13_9, pl13_9, aw_plan (id := 10) pl13_10, pl13_10, aw_plan (id := 11) pl13_11, pl13_11, g1, g2, g3, g4, g5, g7, g8, g9, g10, Int.sub_self]
    refine PC.step (w16) fun m16 j16 => ?_
    try simp only [Heap.next_push, Heap.next_set, Heap.next_kill, next_bump, next_E0] at j16
    simp (maxSteps := 1000000) (disch := first | exact sd | fail) only [go_sem, Nat.reduceAdd, Nat.reduceSub, Nat.reduceLeDiff, ↓reduceIte, decide_eq_true_eq, if_true, if_false, Bool.false_eq_true, Int.lt_irrefl, implies_true, true_and, and_true, eq_self, and_self, beq_self_eq_true, aw_plan (id := 9) pl13_9, pl13_9, aw_plan (id := 10) pl13_10, pl13_10, aw_plan (id := 11) pl13_11, pl13_11, g1, g2, g3, g4, g5, g7, g8, g9, g10, hr]
    refine w9 _ _ fun m17 j17 => ?_
    try simp only [Heap.next_push, Heap.next_set, Heap.next_kill, next_bump, next_E0] at j17
    simp (maxSteps := 1000000) (disch := first | exact sd | fail) only [go_sem, Nat.reduceAdd, Nat.reduceSub, Nat.reduceLeDiff, ↓reduceIte, decide_eq_true_eq, if_true, if_false, Bool.false_eq_true, Int.lt_irrefl, implies_true, true_and, and_true, eq_self, and_self, beq_self_eq_true, aw_plan (id := 9) pl13_9, pl13_9, aw_plan (id := 10) pl13_10, pl13_10, aw_plan (id := 11) pl13_11, pl13_11, g1, g2, g3, g4, g5, g7, g8, g9, g10]
    refine q55a _ _ fun m18 j18 => ?_
    try simp only [Heap.next_push, Heap.next_set, Heap.next_kill, next_bump, next_E0] at j18
    simp (maxSteps := 1000000) (disch := first | exact sd | fail) only [go_sem, Nat.reduceAdd, Nat.reduceSub, Nat.reduceLeDiff, ↓reduceIte, decide_eq_true_eq, if_true, if_false, Bool.false_eq_true, Int.lt_irrefl, implies_true, true_and, and_true, eq_self, and_self, beq_self_eq_true, aw_plan (id := 9) pl13_9, pl13_9, aw_plan (id := 10) pl13_10, pl13_10, aw_plan (id := 11) pl13_11, pl13_11, g1, g2, g3, g4, g5, g7, g8, g9, g10, hw, hs]
    refine PC.step (p45) fun m19 j19 => ?_
    try simp only [Heap.next_push, Heap.next_set, Heap.next_kill, next_bump, next_E0] at j19
    simp (maxSteps := 1000000) (disch := first | exact sd | fail) only [go_sem, Nat.reduceAdd, Nat.reduceSub, Nat.reduceLeDiff, ↓reduceIte, decide_eq_true_eq, if_true, if_false, Bool.false_eq_true, Int.lt_irrefl, implies_true, true_and, and_true, eq_self, and_self, beq_self_eq_true, aw_plan (id := 9) pl13_9, pl13_9, aw_plan (id := 10) pl13_10, pl13_10, aw_plan (id := 11) pl13_11, pl13_11, g1, g2, g3, g4, g5, g7, g8, g9, g10]
    refine PC.step (p45) fun m20 j20 => ?_
    try simp only [Heap.next_push, Heap.next_set, Heap.next_kill, next_bump, next_E0] at j20
    simp (maxSteps := 1000000) (disch := first | exact sd | fail) only [go_sem, Nat.reduceAdd, Nat.reduceSub, Nat.reduceLeDiff, ↓reduceIte, decide_eq_true_eq, if_true, if_false, Bool.false_eq_true, Int.lt_irrefl, implies_true, true_and, and_true, eq_self, and_self, beq_self_eq_true, aw_plan (id := 9) pl13_9, pl13_9, aw_plan (id := 10) pl13_10, pl13_10, aw_plan (id := 11) pl13_11, pl13_11, g1, g2, g3, g4, g5, g7, g8, g9, g10, lmb_zero, ln_zero, List.length_nil, Int.natCast_zero, show ((0 : Nat) : Int) = 0 from rfl]
    refine w21 _ _ fun m21 j21 => ?_
    try simp only [Heap.next_push, Heap.next_set, Heap.next_kill, next_bump, next_E0] at j21
    simp (maxSteps := 1000000) (disch := first | exact sd | fail) only [go_sem, Nat.reduceAdd, Nat.reduceSub, Nat.reduceLeDiff, ↓reduceIte, decide_eq_true_eq, if_true, if_false, Bool.false_eq_true, Int.lt_irrefl, implies_true, true_and, and_true, eq_self, and_self, beq_self_eq_true, aw_plan (id := 9) pl13_9, pl13_9, aw_plan (id := 10) pl13_10, pl13_10, aw_plan (id := 11) pl13_11, pl13_11, g1, g2, g3, g4, g5, g7, g8, g9, g10, hgp]
    refine PC.step (p41) fun m22 j22 => ?_
    try simp only [Heap.next_push, Heap.next_set, Heap.next_kill, next_bump, next_E0] at j22
    simp (maxSteps := 1000000) (disch := first | exact sd | fail) only [go_sem, Nat.reduceAdd, Nat.reduceSub, Nat.reduceLeDiff, ↓reduceIte, decide_eq_true_eq, if_true, if_false, Bool.false_eq_true, Int.lt_irrefl, implies_true, true_and, and_true, eq_self, and_self, beq_self_eq_true, aw_plan (id := 9) pl13_9, pl13_9, aw_plan (id := 10) pl13_10, pl13_10, aw_plan (id := 11) pl13_11, pl13_11]
    exact .rfl

theorem lawNumBack {H : Heap} {xs : List Value} (hf : ∀ b, H.next ≤ b → H.get b = none) (hg : GoodArgs Try.prog H 8 [24, 24] xs) : ACalls Try.prog 3 xs H fun v _ => v = .bool true := by
  obtain ⟨ps, h1, h2, h3⟩ := args_frz hf (by intro t ht; simp only [List.mem_cons, List.not_mem_nil, or_false] at ht; rcases ht with rfl | rfl <;> kernel_rfl) hg
  obtain ⟨p0, ps0, rfl, a0, r0⟩ := h3.cons
  obtain ⟨n0, l0, rfl, k0, _⟩ := a0.num
  obtain ⟨p1, ps1, rfl, a1, r1⟩ := r0.cons
  obtain ⟨n1, l1, rfl, k1, _⟩ := a1.num
  obtain rfl := r1.nil
  exact (q13 k0 k1).law h1
end Go.Abs
