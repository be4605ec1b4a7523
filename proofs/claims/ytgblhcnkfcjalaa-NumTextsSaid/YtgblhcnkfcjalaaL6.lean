/- NumTexts, on values. -/
import Derived.Test.YtgblhcnkfcjalaaYb
import Derived.Test.YtgblhcnkfcjalaaY10
set_option linter.unusedVariables false
set_option linter.unusedSimpArgs false
namespace Go.Abs
open Go Go.Proofs
set_option maxRecDepth 100000
set_option maxHeartbeats 40000000

def pl6_5 : Plan := ⟨[0, 2], [(1, [2], []), (3, [], [4, 5, 6, 7]), (8, [], [9, 10, 11, 13]), (12, [], [14, 15, 16]), (17, [], [18, 19])]⟩
theorem rdL_lt : ∀ (l : List Int) (a : Nat), (∀ x ∈ l, isDig x) → rdL l a < (a + 1) * 10 ^ l.length
  | [], a, _ => by simp [rdL]
  | x :: l, a, h => by
    have hx := h x (by simp)
    unfold isDig at hx
    have ih := rdL_lt l (a * 10 + (x - 48).toNat) (fun y hy => h y (by simp [hy]))
    rw [rdL_cons]
    refine Nat.lt_of_lt_of_le ih ?_
    rw [List.length_cons, Nat.pow_succ, Nat.mul_comm (10 ^ l.length) 10, ← Nat.mul_assoc]
    exact Nat.mul_le_mul_right _ (by omega)
theorem rdV_ln (L : List Int) : ln (rdV L) ≤ 5000 := by
  unfold rdV
  split
  · rw [ln_zero]; omega
  · rename_i h0
    split
    · rename_i h2
      have h3 := rdL_lt (dgs L) 0 (okN_dig h2)
      have h4 := dgs_len L
      have e : (zdN L).natAbs = rdL (dgs L) 0 := by unfold zdN; split <;> omega
      refine Nat.le_trans (ln_le (K := L.length) ?_) (by omega)
      rw [e]
      refine Nat.lt_of_lt_of_le h3 ?_
      rw [Nat.zero_add, Nat.one_mul]
      exact Nat.le_trans (Nat.pow_le_pow_left (by decide) _) (Nat.pow_le_pow_right (by decide) h4)
    · rw [ln_zero]; omega

theorem p56b {s : ByteArray} : PC Try.prog 31 [.string s] (.tuple ⟨[Zn (rdV (chs s)), .int .i64 (rdE (chs s))]⟩) := by
  by_cases h : s.size ≤ 2 ^ 40
  · exact p56 h
  refine PC.of (.cons (.ground rfl) .nil) pu_rd fun N hN => ?_
  have hl := ln_str (P := Try.prog) (s := s) Try.underlying9
  have hc := chs_len s
  generalize hL : chs s = L at *
  refine ACalls.of_code T.hm (n := 65) Try.func31 rfl rfl rfl rfl ?_; simp only [List.replicate_succ, List.replicate_zero, List.cons_append, List.nil_append]
  have h5 : (5000 : Int) < L.length := by omega
  simp (maxSteps := 1000000) (disch := first | exact sd | fail) only [go_sem, Nat.reduceAdd, Nat.reduceSub, Nat.reduceLeDiff, ↓reduceIte, decide_eq_true_eq, if_true, if_false, Bool.false_eq_true, Int.lt_irrefl, implies_true, true_and, and_true, eq_self, and_self, beq_self_eq_true, hl, h5]
  rw [rdV, rdE, if_pos (show 5000 < L.length by omega), if_pos (show 5000 < L.length by omega), lmb_zero]
  exact .tuple (.cons fz_nil (.cons .rfl .nil))
theorem p57b {s : ByteArray} : PC Try.prog 32 [.string s] (.tuple ⟨[Zn (rdV (chs s)), .int .i64 (rdE (chs s))]⟩) := by
  by_cases h : s.size ≤ 2 ^ 40
  · exact p57 h
  refine PC.of (.cons (.ground rfl) .nil) pu_rd fun N hN => ?_
  have hl := ln_str (P := Try.prog) (s := s) Try.underlying9
  have hc := chs_len s
  generalize hL : chs s = L at *
  refine ACalls.of_code T.hm (n := 18) Try.func32 rfl rfl rfl rfl ?_; simp only [List.replicate_succ, List.replicate_zero, List.cons_append, List.nil_append]
  have h5 : (5000 : Int) < L.length := by omega
  simp (maxSteps := 1000000) (disch := first | exact sd | fail) only [go_sem, Nat.reduceAdd, Nat.reduceSub, Nat.reduceLeDiff, ↓reduceIte, decide_eq_true_eq, if_true, if_false, Bool.false_eq_true, Int.lt_irrefl, implies_true, true_and, and_true, eq_self, and_self, beq_self_eq_true, hl, h5]
  rw [rdV, rdE, if_pos (show 5000 < L.length by omega), if_pos (show 5000 < L.length by omega), lmb_zero]
  exact .tuple (.cons fz_nil (.cons .rfl .nil))

theorem q6 {n1 : Bool} {l1 : List Int} {s : ByteArray} (k1 : Lim l1) (hs : s.size ≤ maxLen) : PC Try.prog 6 [In n1 l1, .string s] (.bool true) := by
  refine PC.of (.cons pu_in (.cons (.ground rfl) .nil)) (.ground rfl) fun N hN => ?_
  have hl := ln_str (P := Try.prog) (s := s) Try.underlying9
  have hc := chs_len s
  have q56 := p56b (s := s)
  have q57 := p57b (s := s)
  have hln := rdV_ln (chs s)
  generalize hL : chs s = L at *
  refine ACalls.of_code T.hm (n := 50) Try.func6 rfl rfl rfl rfl ?_; simp only [List.replicate_succ, List.replicate_zero, List.cons_append, List.nil_append]
  simp (maxSteps := 1000000) (disch := first | exact sd | fail) only [go_sem, Nat.reduceAdd, Nat.reduceSub, Nat.reduceLeDiff, ↓reduceIte, decide_eq_true_eq, if_true, if_false, Bool.false_eq_true, Int.lt_irrefl, implies_true, true_and, and_true, eq_self, and_self, beq_self_eq_true, aw_plan (id := 5) pl6_5, pl6_5]
  refine PC.peek1 (es := 2) (own := true) (el := 24) (cells := [.bool n1, Vv eU l1]) (by simp (maxSteps := 1000000) (disch := first | exact sd | fail) only [go_sem, Nat.reduceAdd, Nat.reduceSub, Nat.reduceLeDiff, ↓reduceIte, decide_eq_true_eq, if_true, if_false, Bool.false_eq_true, Int.lt_irrefl, implies_true, true_and, and_true, eq_self, and_self, beq_self_eq_true, aw_plan (id := 5) pl6_5, pl6_5]) (by simp (maxSteps := 1000000) (disch := first | exact sd | fail) only [go_sem, Nat.reduceAdd, Nat.reduceSub, Nat.reduceLeDiff, ↓reduceIte, decide_eq_true_eq, if_true, if_false, Bool.false_eq_true, Int.lt_irrefl, implies_true, true_and, and_true, eq_self, and_self, beq_self_eq_true, aw_plan (id := 5) pl6_5, pl6_5]; omega) (.inr (by unfold unk; omega)) (by decide) (.inr T.s24) rfl (p40 (ls := [⟨n1, l1⟩]) (by simp)) rfl ?_
  simp only [List.any_cons, List.any_nil, Bool.or_false]
  by_cases big : 40 < l1.length
  · rw [decide_eq_true big]
    simp (maxSteps := 1000000) (disch := first | exact sd | fail) only [go_sem, Nat.reduceAdd, Nat.reduceSub, Nat.reduceLeDiff, ↓reduceIte, decide_eq_true_eq, if_true, if_false, Bool.false_eq_true, Int.lt_irrefl, implies_true, true_and, and_true, eq_self, and_self, beq_self_eq_true, aw_plan (id := 5) pl6_5, pl6_5]
    refine PC.step (p41) fun m1 j1 => ?_
    try simp only [Heap.next_push, Heap.next_set, Heap.next_kill, next_bump, next_E0] at j1
    simp (maxSteps := 1000000) (disch := first | exact sd | fail) only [go_sem, Nat.reduceAdd, Nat.reduceSub, Nat.reduceLeDiff, ↓reduceIte, decide_eq_true_eq, if_true, if_false, Bool.false_eq_true, Int.lt_irrefl, implies_true, true_and, and_true, eq_self, and_self, beq_self_eq_true, aw_plan (id := 5) pl6_5, pl6_5]
    exact .rfl
  rw [decide_eq_false big]
  have b1 : Lb l1 := ⟨k1, by omega⟩
  have lA : ln (den n1 l1) ≤ 40 := by have := ln_den (n := n1) k1; omega
  have q58 := p58 (n := n1) b1 (by omega)
  have q59 := p59 (n := n1) b1 (by omega)
  generalize den n1 l1 = A at *
  by_cases g1 : (200 : Int) < L.length
  · by_cases g2 : (L.length : Int) ≤ 5000
    · simp (maxSteps := 1000000) (disch := first | exact sd | fail) only [go_sem, Nat.reduceAdd, Nat.reduceSub, Nat.reduceLeDiff, ↓reduceIte, decide_eq_true_eq, if_true, if_false, Bool.false_eq_true, Int.lt_irrefl, implies_true, true_and, and_true, eq_self, and_self, beq_self_eq_true, aw_plan (id := 5) pl6_5, pl6_5, hl, g1, g2]
      refine PC.step (p41) fun m1 j1 => ?_
      try simp only [Heap.next_push, Heap.next_set, Heap.next_kill, next_bump, next_E0] at j1
      simp (maxSteps := 1000000) (disch := first | exact sd | fail) only [go_sem, Nat.reduceAdd, Nat.reduceSub, Nat.reduceLeDiff, ↓reduceIte, decide_eq_true_eq, if_true, if_false, Bool.false_eq_true, Int.lt_irrefl, implies_true, true_and, and_true, eq_self, and_self, beq_self_eq_true, aw_plan (id := 5) pl6_5, pl6_5]
      exact .rfl
    · simp (maxSteps := 1000000) (disch := first | exact sd | fail) only [go_sem, Nat.reduceAdd, Nat.reduceSub, Nat.reduceLeDiff, ↓reduceIte, decide_eq_true_eq, if_true, if_false, Bool.false_eq_true, Int.lt_irrefl, implies_true, true_and, and_true, eq_self, and_self, beq_self_eq_true, aw_plan (id := 5) pl6_5, pl6_5, hl, g1, g2]
      refine PC.step (q56) fun m1 j1 => ?_
      try simp only [Heap.next_push, Heap.next_set, Heap.next_kill, next_bump, next_E0] at j1
      simp (maxSteps := 1000000) (disch := first | exact sd | fail) only [go_sem, Nat.reduceAdd, Nat.reduceSub, Nat.reduceLeDiff, ↓reduceIte, decide_eq_true_eq, if_true, if_false, Bool.false_eq_true, Int.lt_irrefl, implies_true, true_and, and_true, eq_self, and_self, beq_self_eq_true, aw_plan (id := 5) pl6_5, pl6_5]
      refine PC.step (q57) fun m2 j2 => ?_
      try simp only [Heap.next_push, Heap.next_set, Heap.next_kill, next_bump, next_E0] at j2
      simp (maxSteps := 1000000) (disch := first | exact sd | fail) only [go_sem, Nat.reduceAdd, Nat.reduceSub, Nat.reduceLeDiff, ↓reduceIte, decide_eq_true_eq, if_true, if_false, Bool.false_eq_true, Int.lt_irrefl, implies_true, true_and, and_true, eq_self, and_self, beq_self_eq_true, aw_plan (id := 5) pl6_5, pl6_5]
      refine PC.step (q58) fun m3 j3 => ?_
      try simp only [Heap.next_push, Heap.next_set, Heap.next_kill, next_bump, next_E0] at j3
      simp (maxSteps := 1000000) (disch := first | exact sd | fail) only [go_sem, Nat.reduceAdd, Nat.reduceSub, Nat.reduceLeDiff, ↓reduceIte, decide_eq_true_eq, if_true, if_false, Bool.false_eq_true, Int.lt_irrefl, implies_true, true_and, and_true, eq_self, and_self, beq_self_eq_true, aw_plan (id := 5) pl6_5, pl6_5]
      refine PC.step (q59) fun m4 j4 => ?_
      try simp only [Heap.next_push, Heap.next_set, Heap.next_kill, next_bump, next_E0] at j4
      simp (maxSteps := 1000000) (disch := first | exact sd | fail) only [go_sem, Nat.reduceAdd, Nat.reduceSub, Nat.reduceLeDiff, ↓reduceIte, decide_eq_true_eq, if_true, if_false, Bool.false_eq_true, Int.lt_irrefl, implies_true, true_and, and_true, eq_self, and_self, beq_self_eq_true, aw_plan (id := 5) pl6_5, pl6_5, bin_seql, beq_self_eq_true]
      refine PC.step (p44t (by omega) rfl) fun m5 j5 => ?_
      try simp only [Heap.next_push, Heap.next_set, Heap.next_kill, next_bump, next_E0] at j5
      simp (maxSteps := 1000000) (disch := first | exact sd | fail) only [go_sem, Nat.reduceAdd, Nat.reduceSub, Nat.reduceLeDiff, ↓reduceIte, decide_eq_true_eq, if_true, if_false, Bool.false_eq_true, Int.lt_irrefl, implies_true, true_and, and_true, eq_self, and_self, beq_self_eq_true, aw_plan (id := 5) pl6_5, pl6_5]
      refine PC.step (p45) fun m6 j6 => ?_
      try simp only [Heap.next_push, Heap.next_set, Heap.next_kill, next_bump, next_E0] at j6
      simp (maxSteps := 1000000) (disch := first | exact sd | fail) only [go_sem, Nat.reduceAdd, Nat.reduceSub, Nat.reduceLeDiff, ↓reduceIte, decide_eq_true_eq, if_true, if_false, Bool.false_eq_true, Int.lt_irrefl, implies_true, true_and, and_true, eq_self, and_self, beq_self_eq_true, aw_plan (id := 5) pl6_5, pl6_5]
      refine PC.step (p41) fun m7 j7 => ?_
      try simp only [Heap.next_push, Heap.next_set, Heap.next_kill, next_bump, next_E0] at j7
      simp (maxSteps := 1000000) (disch := first | exact sd | fail) only [go_sem, Nat.reduceAdd, Nat.reduceSub, Nat.reduceLeDiff, ↓reduceIte, decide_eq_true_eq, if_true, if_false, Bool.false_eq_true, Int.lt_irrefl, implies_true, true_and, and_true, eq_self, and_self, beq_self_eq_true, aw_plan (id := 5) pl6_5, pl6_5]
      exact .rfl
  · simp (maxSteps := 1000000) (disch := first | exact sd | fail) only [go_sem, Nat.reduceAdd, Nat.reduceSub, Nat.reduceLeDiff, ↓reduceIte, decide_eq_true_eq, if_true, if_false, Bool.false_eq_true, Int.lt_irrefl, implies_true, true_and, and_true, eq_self, and_self, beq_self_eq_true, aw_plan (id := 5) pl6_5, pl6_5, hl, g1]
    refine PC.step (q56) fun m1 j1 => ?_
    try simp only [Heap.next_push, Heap.next_set, Heap.next_kill, next_bump, next_E0] at j1
    simp (maxSteps := 1000000) (disch := first | exact sd | fail) only [go_sem, Nat.reduceAdd, Nat.reduceSub, Nat.reduceLeDiff, ↓reduceIte, decide_eq_true_eq, if_true, if_false, Bool.false_eq_true, Int.lt_irrefl, implies_true, true_and, and_true, eq_self, and_self, beq_self_eq_true, aw_plan (id := 5) pl6_5, pl6_5]
    refine PC.step (q57) fun m2 j2 => ?_
    try simp only [Heap.next_push, Heap.next_set, Heap.next_kill, next_bump, next_E0] at j2
    simp (maxSteps := 1000000) (disch := first | exact sd | fail) only [go_sem, Nat.reduceAdd, Nat.reduceSub, Nat.reduceLeDiff, ↓reduceIte, decide_eq_true_eq, if_true, if_false, Bool.false_eq_true, Int.lt_irrefl, implies_true, true_and, and_true, eq_self, and_self, beq_self_eq_true, aw_plan (id := 5) pl6_5, pl6_5]
    refine PC.step (q58) fun m3 j3 => ?_
    try simp only [Heap.next_push, Heap.next_set, Heap.next_kill, next_bump, next_E0] at j3
    simp (maxSteps := 1000000) (disch := first | exact sd | fail) only [go_sem, Nat.reduceAdd, Nat.reduceSub, Nat.reduceLeDiff, ↓reduceIte, decide_eq_true_eq, if_true, if_false, Bool.false_eq_true, Int.lt_irrefl, implies_true, true_and, and_true, eq_self, and_self, beq_self_eq_true, aw_plan (id := 5) pl6_5, pl6_5]
    refine PC.step (q59) fun m4 j4 => ?_
    try simp only [Heap.next_push, Heap.next_set, Heap.next_kill, next_bump, next_E0] at j4
    simp (maxSteps := 1000000) (disch := first | exact sd | fail) only [go_sem, Nat.reduceAdd, Nat.reduceSub, Nat.reduceLeDiff, ↓reduceIte, decide_eq_true_eq, if_true, if_false, Bool.false_eq_true, Int.lt_irrefl, implies_true, true_and, and_true, eq_self, and_self, beq_self_eq_true, aw_plan (id := 5) pl6_5, pl6_5, bin_seql, beq_self_eq_true]
    refine PC.step (p44t (by omega) rfl) fun m5 j5 => ?_
    try simp only [Heap.next_push, Heap.next_set, Heap.next_kill, next_bump, next_E0] at j5
    simp (maxSteps := 1000000) (disch := first | exact sd | fail) only [go_sem, Nat.reduceAdd, Nat.reduceSub, Nat.reduceLeDiff, ↓reduceIte, decide_eq_true_eq, if_true, if_false, Bool.false_eq_true, Int.lt_irrefl, implies_true, true_and, and_true, eq_self, and_self, beq_self_eq_true, aw_plan (id := 5) pl6_5, pl6_5]
    refine PC.step (p45) fun m6 j6 => ?_
    try simp only [Heap.next_push, Heap.next_set, Heap.next_kill, next_bump, next_E0] at j6
    simp (maxSteps := 1000000) (disch := first | exact sd | fail) only [go_sem, Nat.reduceAdd, Nat.reduceSub, Nat.reduceLeDiff, ↓reduceIte, decide_eq_true_eq, if_true, if_false, Bool.false_eq_true, Int.lt_irrefl, implies_true, true_and, and_true, eq_self, and_self, beq_self_eq_true, aw_plan (id := 5) pl6_5, pl6_5]
    refine PC.step (p41) fun m7 j7 => ?_
    try simp only [Heap.next_push, Heap.next_set, Heap.next_kill, next_bump, next_E0] at j7
    simp (maxSteps := 1000000) (disch := first | exact sd | fail) only [go_sem, Nat.reduceAdd, Nat.reduceSub, Nat.reduceLeDiff, ↓reduceIte, decide_eq_true_eq, if_true, if_false, Bool.false_eq_true, Int.lt_irrefl, implies_true, true_and, and_true, eq_self, and_self, beq_self_eq_true, aw_plan (id := 5) pl6_5, pl6_5]
    exact .rfl

theorem lawNumTexts {H : Heap} {xs : List Value} (hf : ∀ b, H.next ≤ b → H.get b = none) (hg : GoodArgs Try.prog H 8 [24, 9] xs) : ACalls Try.prog 6 xs H fun v _ => v = .bool true := by
  obtain ⟨ps, h1, h2, h3⟩ := args_frz hf (by intro t ht; simp only [List.mem_cons, List.not_mem_nil, or_false] at ht; rcases ht with rfl | rfl <;> kernel_rfl) hg
  obtain ⟨p, ps, rfl, h4, h5⟩ := h3.cons
  obtain ⟨p2, ps, rfl, h6, h7⟩ := h5.cons
  obtain rfl := h7.nil
  obtain ⟨n1, l1, rfl, c1, d1⟩ := h4.num
  obtain ⟨s, rfl, hs⟩ := h6.string Try.underlying9
  exact (q6 c1 hs).law h1
end Go.Abs
