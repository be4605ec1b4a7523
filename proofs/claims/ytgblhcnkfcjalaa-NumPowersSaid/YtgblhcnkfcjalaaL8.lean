/- NumPowers, on values. -/
import Derived.Test.YtgblhcnkfcjalaaY7
set_option linter.unusedVariables false
set_option linter.unusedSimpArgs false
namespace Go.Abs
open Go Go.Proofs
set_option maxRecDepth 100000
set_option maxHeartbeats 40000000

def pl8_10 : Plan := ⟨[0], [(1, [0], []), (2, [], []), (3, [], [])]⟩
theorem chs_append (a b : ByteArray) : chs (a ++ b) = chs a ++ chs b := by
  unfold chs
  rw [ByteArray.data_append, Array.toList_append, List.map_append]
theorem txt_ten {z : Int} (h : z ≠ 0) : txt (z * 10) = txt z ++ [48] := by
  have e : (z * 10).natAbs = z.natAbs * 10 := by omega
  have e2 : decL (z.natAbs * 10) = 48 :: decL z.natAbs := by
    rw [decL_pos (by omega), show z.natAbs * 10 % 10 = 0 by omega, show z.natAbs * 10 / 10 = z.natAbs by omega]; rfl
  unfold txt
  rw [if_neg h, if_neg (by omega), e, e2]
  by_cases hz : z < 0
  · rw [if_pos hz, if_pos (by omega)]; simp
  · rw [if_neg hz, if_neg (by omega)]; simp
theorem bs_ten {z : Int} (h : z ≠ 0) : bsOf (txt z) ++ ⟨#[48]⟩ = bsOf (txt (z * 10)) :=
  chs_inj (by rw [chs_append, chs_txt, chs_txt, txt_ten h]; rfl)
theorem ln_ten {σ : Int} {i : Nat} (hs : σ.natAbs = 1) (hi : i ≤ 100) : ln (σ * 10 ^ i) ≤ 12 := by
  refine ln_le ?_
  rw [Int.natAbs_mul, hs, Nat.one_mul, Int.natAbs_pow]
  refine Nat.lt_of_le_of_lt (Nat.pow_le_pow_right (by decide) hi) ?_
  decide
theorem ten_ne {σ : Int} (i : Nat) (hs : σ.natAbs = 1) : σ * 10 ^ i ≠ 0 := by
  have h1 : (10 : Int) ^ i ≠ 0 := Int.pow_ne_zero (by decide)
  exact Int.mul_ne_zero (by omega) h1

theorem decL_one : decL 1 = [49] := by
  rw [decL_pos (by decide), show 1 / 10 = 0 from rfl, decL_zero]; rfl
theorem txt_one : txt 1 = [49] := by
  unfold txt
  rw [if_neg (by decide), if_neg (by decide), show Int.natAbs 1 = 1 from rfl, decL_one]; rfl
theorem txt_neg : txt (-1) = [45, 49] := by
  unfold txt
  rw [if_neg (by decide), if_pos (by decide), show Int.natAbs (-1) = 1 from rfl, decL_one]; rfl

theorem q8 {n : Int} {g : Bool} (hn : 0 ≤ n ∧ n < 256) : PC Try.prog 8 [.int .u8 n, .bool g] (.bool true) := by
  refine PC.of (.cons (.ground rfl) (.cons (.ground rfl) .nil)) (.ground rfl) fun N hN => ?_
  have e0 : n.tmod 100 = n % 100 := Int.tmod_eq_emod_of_nonneg hn.1
  obtain ⟨k, hk⟩ : ∃ k : Nat, n % 100 = (k : Int) := ⟨(n % 100).toNat, by omega⟩
  have hk1 : k ≤ 99 := by omega
  refine ACalls.of_code T.hm (n := 47) Try.func8 rfl rfl rfl rfl ?_; simp only [List.replicate_succ, List.replicate_zero, List.cons_append, List.nil_append]
  simp (maxSteps := 1000000) (disch := first | exact sd | fail) only [go_sem, Nat.reduceAdd, Nat.reduceSub, Nat.reduceLeDiff, ↓reduceIte, decide_eq_true_eq, if_true, if_false, Bool.false_eq_true, Int.lt_irrefl, implies_true, true_and, and_true, eq_self, and_self, beq_self_eq_true, aw_plan (id := 10) pl8_10, pl8_10, e0, hk]
  refine PC.step (p50 (x := 1) (by omega)) fun m1 j1 => ?_
  try simp only [Heap.next_push, Heap.next_set, Heap.next_kill, next_bump, next_E0] at j1
  cases g with
  | false =>
    simp (maxSteps := 1000000) (disch := first | exact sd | fail) only [go_sem, Nat.reduceAdd, Nat.reduceSub, Nat.reduceLeDiff, ↓reduceIte, decide_eq_true_eq, if_true, if_false, Bool.false_eq_true, Int.lt_irrefl, implies_true, true_and, and_true, eq_self, and_self, beq_self_eq_true, aw_plan (id := 10) pl8_10, pl8_10]
    obtain ⟨σ, hσe⟩ : ∃ σ : Int, σ = 1 := ⟨_, rfl⟩
    have hσ : σ.natAbs = 1 := by rw [hσe]; rfl
    have hs0 : bsOf (txt (σ * 10 ^ 0)) = ⟨#[49]⟩ := by rw [hσe, Int.pow_zero, Int.mul_one, txt_one]; rfl
    refine aw_loopJ (σ := Nat) (fun i J => [.int .u8 n, .bool false, J 2, J 3, .bool false, .int .i64 k, .pointer (some ⟨m1, 0, none⟩), .string (bsOf (txt (σ * 10 ^ i))), .int .i64 i, J 9, J 10, J 11, J 12, J 13, J 14, J 15, J 16, J 17, J 18, J 19, J 20, J 21, J 22, J 23, J 24, J 25, J 26, J 27, J 28, J 29, J 30, J 31, J 32, J 33, J 34, J 35, J 36, J 37, J 38, J 39, J 40, J 41, J 42, J 43, J 44, J 45, J 46, J 47, J 48]) (fun m i H1 => m = k - i ∧ i ≤ k ∧ m1 < H1.next ∧ H1.get m1 = some (.row true 24 [.bool (sgn (σ * 10 ^ i)), Vv eU (lmb (σ * 10 ^ i))])) k 0 ?_ ⟨rfl, Nat.zero_le _, ?_, ?_⟩ ?_
    rotate_left 3
    · rintro m i J H1 ⟨rfl, hi, hnx, hg1⟩
      have hln := ln_ten (i := i) hσ (by omega)
      have hne := ten_ne i hσ
      by_cases h4 : (i : Int) < k
      · have hb := bs_ten hne
        have hsz : (bsOf (txt (σ * 10 ^ i))).size ≤ 500 := by rw [← chs_len, chs_txt]; have := txt_len hln; omega
        have eq10 : σ * 10 ^ i * 10 = σ * 10 ^ (i + 1) := by rw [Int.pow_succ, Int.mul_assoc]
        have hl2 := ln_ten (i := i + 1) hσ (by omega)
        rw [eq10] at hb
        generalize hz : σ * 10 ^ i = z at *
        generalize hz2 : σ * 10 ^ (i + 1) = z2 at *
        simp (maxSteps := 1000000) (disch := first | exact sd | fail) only [go_sem, Nat.reduceAdd, Nat.reduceSub, Nat.reduceLeDiff, ↓reduceIte, decide_eq_true_eq, if_true, if_false, Bool.false_eq_true, Int.lt_irrefl, implies_true, true_and, and_true, eq_self, and_self, beq_self_eq_true, aw_plan (id := 10) pl8_10, pl8_10, h4, hg1]
        refine PC.step (p50 (x := 10) (by omega)) fun m2 j2 => ?_
        try simp only [Heap.next_push, Heap.next_set, Heap.next_kill, next_bump, next_E0] at j2
        simp (maxSteps := 1000000) (disch := first | exact sd | fail) only [go_sem, Nat.reduceAdd, Nat.reduceSub, Nat.reduceLeDiff, ↓reduceIte, decide_eq_true_eq, if_true, if_false, Bool.false_eq_true, Int.lt_irrefl, implies_true, true_and, and_true, eq_self, and_self, beq_self_eq_true, aw_plan (id := 10) pl8_10, pl8_10, hg1]
        refine PC.step (p54 (lb_z (by omega)) (lb_z (z := 10) (by have := ln_small (z := 10) (by decide); omega))) fun m3 j3 => ?_
        try simp only [Heap.next_push, Heap.next_set, Heap.next_kill, next_bump, next_E0] at j3
        rw [den_z, den_z, eq10]
        simp (maxSteps := 1000000) (disch := first | exact sd | fail) only [go_sem, Nat.reduceAdd, Nat.reduceSub, Nat.reduceLeDiff, ↓reduceIte, decide_eq_true_eq, if_true, if_false, Bool.false_eq_true, Int.lt_irrefl, implies_true, true_and, and_true, eq_self, and_self, beq_self_eq_true, aw_plan (id := 10) pl8_10, pl8_10, hg1, bin_sadd (a := bsOf (txt z)) (b := ⟨#[48]⟩) (by show _ + 1 ≤ _; omega), hb]
        exact IJ_intro (k := k - (i + 1)) (by omega) (i + 1) (by subst hz2; rfl) ⟨rfl, by omega, by simp (maxSteps := 1000000) (disch := first | exact sd | fail) only [go_sem, Nat.reduceAdd, Nat.reduceSub, Nat.reduceLeDiff, ↓reduceIte, decide_eq_true_eq, if_true, if_false, Bool.false_eq_true, Int.lt_irrefl, implies_true, true_and, and_true, eq_self, and_self, beq_self_eq_true, aw_plan (id := 10) pl8_10, pl8_10]; omega, by subst hz2; simp (maxSteps := 1000000) (disch := first | exact sd | fail) only [go_sem, Nat.reduceAdd, Nat.reduceSub, Nat.reduceLeDiff, ↓reduceIte, decide_eq_true_eq, if_true, if_false, Bool.false_eq_true, Int.lt_irrefl, implies_true, true_and, and_true, eq_self, and_self, beq_self_eq_true, aw_plan (id := 10) pl8_10, pl8_10]⟩
      · have ek : i = k := by omega
        subst ek
        generalize hz : σ * 10 ^ i = z at *
        simp (maxSteps := 1000000) (disch := first | exact sd | fail) only [go_sem, Nat.reduceAdd, Nat.reduceSub, Nat.reduceLeDiff, ↓reduceIte, decide_eq_true_eq, if_true, if_false, Bool.false_eq_true, Int.lt_irrefl, implies_true, true_and, and_true, eq_self, and_self, beq_self_eq_true, aw_plan (id := 10) pl8_10, pl8_10, h4, hg1]
        refine PC.step (p56t (z := z) (by omega)) fun m2 j2 => ?_
        try simp only [Heap.next_push, Heap.next_set, Heap.next_kill, next_bump, next_E0] at j2
        simp (maxSteps := 1000000) (disch := first | exact sd | fail) only [go_sem, Nat.reduceAdd, Nat.reduceSub, Nat.reduceLeDiff, ↓reduceIte, decide_eq_true_eq, if_true, if_false, Bool.false_eq_true, Int.lt_irrefl, implies_true, true_and, and_true, eq_self, and_self, beq_self_eq_true, aw_plan (id := 10) pl8_10, pl8_10, hg1]
        refine PC.step (p58z (z := z) (by omega)) fun m3 j3 => ?_
        try simp only [Heap.next_push, Heap.next_set, Heap.next_kill, next_bump, next_E0] at j3
        simp (maxSteps := 1000000) (disch := first | exact sd | fail) only [go_sem, Nat.reduceAdd, Nat.reduceSub, Nat.reduceLeDiff, ↓reduceIte, decide_eq_true_eq, if_true, if_false, Bool.false_eq_true, Int.lt_irrefl, implies_true, true_and, and_true, eq_self, and_self, beq_self_eq_true, aw_plan (id := 10) pl8_10, pl8_10, hg1]
        refine PC.step (p45) fun m4 j4 => ?_
        try simp only [Heap.next_push, Heap.next_set, Heap.next_kill, next_bump, next_E0] at j4
        simp (maxSteps := 1000000) (disch := first | exact sd | fail) only [go_sem, Nat.reduceAdd, Nat.reduceSub, Nat.reduceLeDiff, ↓reduceIte, decide_eq_true_eq, if_true, if_false, Bool.false_eq_true, Int.lt_irrefl, implies_true, true_and, and_true, eq_self, and_self, beq_self_eq_true, aw_plan (id := 10) pl8_10, pl8_10, hg1]
        refine PC.step (p44t (by omega) rfl) fun m5 j5 => ?_
        try simp only [Heap.next_push, Heap.next_set, Heap.next_kill, next_bump, next_E0] at j5
        simp (maxSteps := 1000000) (disch := first | exact sd | fail) only [go_sem, Nat.reduceAdd, Nat.reduceSub, Nat.reduceLeDiff, ↓reduceIte, decide_eq_true_eq, if_true, if_false, Bool.false_eq_true, Int.lt_irrefl, implies_true, true_and, and_true, eq_self, and_self, beq_self_eq_true, aw_plan (id := 10) pl8_10, pl8_10]
        refine PC.step (p41) fun m6 j6 => ?_
        try simp only [Heap.next_push, Heap.next_set, Heap.next_kill, next_bump, next_E0] at j6
        simp (maxSteps := 1000000) (disch := first | exact sd | fail) only [go_sem, Nat.reduceAdd, Nat.reduceSub, Nat.reduceLeDiff, ↓reduceIte, decide_eq_true_eq, if_true, if_false, Bool.false_eq_true, Int.lt_irrefl, implies_true, true_and, and_true, eq_self, and_self, beq_self_eq_true, aw_plan (id := 10) pl8_10, pl8_10]
        exact .rfl
    · simp only [hs0]; rfl
    · simp (maxSteps := 1000000) (disch := first | exact sd | fail) only [go_sem, Nat.reduceAdd, Nat.reduceSub, Nat.reduceLeDiff, ↓reduceIte, decide_eq_true_eq, if_true, if_false, Bool.false_eq_true, Int.lt_irrefl, implies_true, true_and, and_true, eq_self, and_self, beq_self_eq_true, aw_plan (id := 10) pl8_10, pl8_10]; omega
    · rw [hσe, Int.pow_zero, Int.mul_one]
      simp (maxSteps := 1000000) (disch := first | exact sd | fail) only [go_sem, Nat.reduceAdd, Nat.reduceSub, Nat.reduceLeDiff, ↓reduceIte, decide_eq_true_eq, if_true, if_false, Bool.false_eq_true, Int.lt_irrefl, implies_true, true_and, and_true, eq_self, and_self, beq_self_eq_true, aw_plan (id := 10) pl8_10, pl8_10]
  | true =>
    simp (maxSteps := 1000000) (disch := first | exact sd | fail) only [go_sem, Nat.reduceAdd, Nat.reduceSub, Nat.reduceLeDiff, ↓reduceIte, decide_eq_true_eq, if_true, if_false, Bool.false_eq_true, Int.lt_irrefl, implies_true, true_and, and_true, eq_self, and_self, beq_self_eq_true, aw_plan (id := 10) pl8_10, pl8_10]
    refine PC.step (p50 (x := -1) (by omega)) fun m7 j7 => ?_
    try simp only [Heap.next_push, Heap.next_set, Heap.next_kill, next_bump, next_E0] at j7
    obtain ⟨σ, hσe⟩ : ∃ σ : Int, σ = -1 := ⟨_, rfl⟩
    have hσ : σ.natAbs = 1 := by rw [hσe]; rfl
    have hs0 : bsOf (txt (σ * 10 ^ 0)) = ⟨#[45, 49]⟩ := by rw [hσe, Int.pow_zero, Int.mul_one, txt_neg]; rfl
    simp (maxSteps := 1000000) (disch := first | exact sd | fail) only [go_sem, Nat.reduceAdd, Nat.reduceSub, Nat.reduceLeDiff, ↓reduceIte, decide_eq_true_eq, if_true, if_false, Bool.false_eq_true, Int.lt_irrefl, implies_true, true_and, and_true, eq_self, and_self, beq_self_eq_true, aw_plan (id := 10) pl8_10, pl8_10]
    refine aw_loopJ (σ := Nat) (fun i J => [.int .u8 n, .bool true, J 2, J 3, .bool false, .int .i64 k, .pointer (some ⟨m1, 0, none⟩), .string (bsOf (txt (σ * 10 ^ i))), .int .i64 i, J 9, J 10, J 11, J 12, J 13, J 14, J 15, J 16, J 17, J 18, J 19, J 20, J 21, J 22, J 23, J 24, J 25, J 26, J 27, J 28, J 29, J 30, J 31, J 32, J 33, J 34, J 35, J 36, J 37, J 38, J 39, J 40, J 41, J 42, J 43, J 44, J 45, J 46, J 47, J 48]) (fun m i H1 => m = k - i ∧ i ≤ k ∧ m1 < H1.next ∧ H1.get m1 = some (.row true 24 [.bool (sgn (σ * 10 ^ i)), Vv eU (lmb (σ * 10 ^ i))])) k 0 ?_ ⟨rfl, Nat.zero_le _, ?_, ?_⟩ ?_
    rotate_left 3
    · rintro m i J H1 ⟨rfl, hi, hnx, hg1⟩
      have hln := ln_ten (i := i) hσ (by omega)
      have hne := ten_ne i hσ
      by_cases h4 : (i : Int) < k
      · have hb := bs_ten hne
        have hsz : (bsOf (txt (σ * 10 ^ i))).size ≤ 500 := by rw [← chs_len, chs_txt]; have := txt_len hln; omega
        have eq10 : σ * 10 ^ i * 10 = σ * 10 ^ (i + 1) := by rw [Int.pow_succ, Int.mul_assoc]
        have hl2 := ln_ten (i := i + 1) hσ (by omega)
        rw [eq10] at hb
        generalize hz : σ * 10 ^ i = z at *
        generalize hz2 : σ * 10 ^ (i + 1) = z2 at *
        simp (maxSteps := 1000000) (disch := first | exact sd | fail) only [go_sem, Nat.reduceAdd, Nat.reduceSub, Nat.reduceLeDiff, ↓reduceIte, decide_eq_true_eq, if_true, if_false, Bool.false_eq_true, Int.lt_irrefl, implies_true, true_and, and_true, eq_self, and_self, beq_self_eq_true, aw_plan (id := 10) pl8_10, pl8_10, h4, hg1]
        refine PC.step (p50 (x := 10) (by omega)) fun m2 j2 => ?_
        try simp only [Heap.next_push, Heap.next_set, Heap.next_kill, next_bump, next_E0] at j2
        simp (maxSteps := 1000000) (disch := first | exact sd | fail) only [go_sem, Nat.reduceAdd, Nat.reduceSub, Nat.reduceLeDiff, ↓reduceIte, decide_eq_true_eq, if_true, if_false, Bool.false_eq_true, Int.lt_irrefl, implies_true, true_and, and_true, eq_self, and_self, beq_self_eq_true, aw_plan (id := 10) pl8_10, pl8_10, hg1]
        refine PC.step (p54 (lb_z (by omega)) (lb_z (z := 10) (by have := ln_small (z := 10) (by decide); omega))) fun m3 j3 => ?_
        try simp only [Heap.next_push, Heap.next_set, Heap.next_kill, next_bump, next_E0] at j3
        rw [den_z, den_z, eq10]
        simp (maxSteps := 1000000) (disch := first | exact sd | fail) only [go_sem, Nat.reduceAdd, Nat.reduceSub, Nat.reduceLeDiff, ↓reduceIte, decide_eq_true_eq, if_true, if_false, Bool.false_eq_true, Int.lt_irrefl, implies_true, true_and, and_true, eq_self, and_self, beq_self_eq_true, aw_plan (id := 10) pl8_10, pl8_10, hg1, bin_sadd (a := bsOf (txt z)) (b := ⟨#[48]⟩) (by show _ + 1 ≤ _; omega), hb]
        exact IJ_intro (k := k - (i + 1)) (by omega) (i + 1) (by subst hz2; rfl) ⟨rfl, by omega, by simp (maxSteps := 1000000) (disch := first | exact sd | fail) only [go_sem, Nat.reduceAdd, Nat.reduceSub, Nat.reduceLeDiff, ↓reduceIte, decide_eq_true_eq, if_true, if_false, Bool.false_eq_true, Int.lt_irrefl, implies_true, true_and, and_true, eq_self, and_self, beq_self_eq_true, aw_plan (id := 10) pl8_10, pl8_10]; omega, by subst hz2; simp (maxSteps := 1000000) (disch := first | exact sd | fail) only [go_sem, Nat.reduceAdd, Nat.reduceSub, Nat.reduceLeDiff, ↓reduceIte, decide_eq_true_eq, if_true, if_false, Bool.false_eq_true, Int.lt_irrefl, implies_true, true_and, and_true, eq_self, and_self, beq_self_eq_true, aw_plan (id := 10) pl8_10, pl8_10]⟩
      · have ek : i = k := by omega
        subst ek
        generalize hz : σ * 10 ^ i = z at *
        simp (maxSteps := 1000000) (disch := first | exact sd | fail) only [go_sem, Nat.reduceAdd, Nat.reduceSub, Nat.reduceLeDiff, ↓reduceIte, decide_eq_true_eq, if_true, if_false, Bool.false_eq_true, Int.lt_irrefl, implies_true, true_and, and_true, eq_self, and_self, beq_self_eq_true, aw_plan (id := 10) pl8_10, pl8_10, h4, hg1]
        refine PC.step (p56t (z := z) (by omega)) fun m2 j2 => ?_
        try simp only [Heap.next_push, Heap.next_set, Heap.next_kill, next_bump, next_E0] at j2
        simp (maxSteps := 1000000) (disch := first | exact sd | fail) only [go_sem, Nat.reduceAdd, Nat.reduceSub, Nat.reduceLeDiff, ↓reduceIte, decide_eq_true_eq, if_true, if_false, Bool.false_eq_true, Int.lt_irrefl, implies_true, true_and, and_true, eq_self, and_self, beq_self_eq_true, aw_plan (id := 10) pl8_10, pl8_10, hg1]
        refine PC.step (p58z (z := z) (by omega)) fun m3 j3 => ?_
        try simp only [Heap.next_push, Heap.next_set, Heap.next_kill, next_bump, next_E0] at j3
        simp (maxSteps := 1000000) (disch := first | exact sd | fail) only [go_sem, Nat.reduceAdd, Nat.reduceSub, Nat.reduceLeDiff, ↓reduceIte, decide_eq_true_eq, if_true, if_false, Bool.false_eq_true, Int.lt_irrefl, implies_true, true_and, and_true, eq_self, and_self, beq_self_eq_true, aw_plan (id := 10) pl8_10, pl8_10, hg1]
        refine PC.step (p45) fun m4 j4 => ?_
        try simp only [Heap.next_push, Heap.next_set, Heap.next_kill, next_bump, next_E0] at j4
        simp (maxSteps := 1000000) (disch := first | exact sd | fail) only [go_sem, Nat.reduceAdd, Nat.reduceSub, Nat.reduceLeDiff, ↓reduceIte, decide_eq_true_eq, if_true, if_false, Bool.false_eq_true, Int.lt_irrefl, implies_true, true_and, and_true, eq_self, and_self, beq_self_eq_true, aw_plan (id := 10) pl8_10, pl8_10, hg1]
        refine PC.step (p44t (by omega) rfl) fun m5 j5 => ?_
        try simp only [Heap.next_push, Heap.next_set, Heap.next_kill, next_bump, next_E0] at j5
        simp (maxSteps := 1000000) (disch := first | exact sd | fail) only [go_sem, Nat.reduceAdd, Nat.reduceSub, Nat.reduceLeDiff, ↓reduceIte, decide_eq_true_eq, if_true, if_false, Bool.false_eq_true, Int.lt_irrefl, implies_true, true_and, and_true, eq_self, and_self, beq_self_eq_true, aw_plan (id := 10) pl8_10, pl8_10]
        refine PC.step (p41) fun m6 j6 => ?_
        try simp only [Heap.next_push, Heap.next_set, Heap.next_kill, next_bump, next_E0] at j6
        simp (maxSteps := 1000000) (disch := first | exact sd | fail) only [go_sem, Nat.reduceAdd, Nat.reduceSub, Nat.reduceLeDiff, ↓reduceIte, decide_eq_true_eq, if_true, if_false, Bool.false_eq_true, Int.lt_irrefl, implies_true, true_and, and_true, eq_self, and_self, beq_self_eq_true, aw_plan (id := 10) pl8_10, pl8_10]
        exact .rfl
    · simp only [hs0]; rfl
    · simp (maxSteps := 1000000) (disch := first | exact sd | fail) only [go_sem, Nat.reduceAdd, Nat.reduceSub, Nat.reduceLeDiff, ↓reduceIte, decide_eq_true_eq, if_true, if_false, Bool.false_eq_true, Int.lt_irrefl, implies_true, true_and, and_true, eq_self, and_self, beq_self_eq_true, aw_plan (id := 10) pl8_10, pl8_10]; omega
    · rw [hσe, Int.pow_zero, Int.mul_one]
      simp (maxSteps := 1000000) (disch := first | exact sd | fail) only [go_sem, Nat.reduceAdd, Nat.reduceSub, Nat.reduceLeDiff, ↓reduceIte, decide_eq_true_eq, if_true, if_false, Bool.false_eq_true, Int.lt_irrefl, implies_true, true_and, and_true, eq_self, and_self, beq_self_eq_true, aw_plan (id := 10) pl8_10, pl8_10]

theorem lawNumPowers {H : Heap} {xs : List Value} (hf : ∀ b, H.next ≤ b → H.get b = none) (hg : GoodArgs Try.prog H 8 [5, 4] xs) : ACalls Try.prog 8 xs H fun v _ => v = .bool true := by
  obtain ⟨ps, h1, h2, h3⟩ := args_frz hf (by intro t ht; simp only [List.mem_cons, List.not_mem_nil, or_false] at ht; rcases ht with rfl | rfl <;> kernel_rfl) hg
  obtain ⟨p, ps, rfl, h4, h5⟩ := h3.cons
  obtain ⟨p2, ps, rfl, h6, h7⟩ := h5.cons
  obtain rfl := h7.nil
  obtain ⟨n, rfl, hn⟩ := h4.int Try.underlying5
  obtain ⟨b, rfl⟩ := h6.bool Try.underlying4
  exact (q8 (wf_u8 hn)).law h1
end Go.Abs
