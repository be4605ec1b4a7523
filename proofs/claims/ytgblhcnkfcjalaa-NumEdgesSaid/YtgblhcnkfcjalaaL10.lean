/- NumEdges, on values. -/
import Derived.Test.YtgblhcnkfcjalaaQ1
import Derived.Test.YtgblhcnkfcjalaaN29
import Derived.Test.YtgblhcnkfcjalaaA30
set_option linter.unusedVariables false
set_option linter.unusedSimpArgs false
namespace Go.Abs
open Go Go.Proofs
set_option maxRecDepth 100000
set_option maxHeartbeats 40000000

def pl10_3 : Plan := ⟨[0, 3], [(1, [0], []), (2, [], []), (4, [], [])]⟩
def pl10_12 : Plan := ⟨[0, 1, 4, 9], [(2, [4], []), (3, [4], []), (5, [], []), (6, [], []), (7, [], []), (8, [], []), (10, [], [])]⟩
def pl10_13 : Plan := ⟨[0, 3], [(1, [3, 0], []), (2, [3], []), (4, [], [5, 6, 7, 9, 10]), (8, [], []), (11, [], []), (12, [], [13, 14, 15, 16]), (17, [], [18, 19]), (20, [], [21, 22])]⟩
theorem p62 {k : Nat} (hk : k ≤ 1000) : PC Try.prog 37 [.int .i64 k] (Zn (4294967296 ^ k)) :=
  PC.of' (.cons (.ground rfl) .nil) fun N _ => (w62 hk).mono fun _ _ h => rN ⟨h.1, h.2.2⟩

theorem p44t {a b : Int} (h1 : ln a ≤ 2 ^ 40) (e : a = b) : PC Try.prog 19 [Zn a, Zn b] (.bool true) := by
  subst e
  exact (p44 (lb_z h1) (lb_z h1)).ok (by simp)

theorem q10 {n : Int} (hn : 0 ≤ n ∧ n < 256) : PC Try.prog 10 [.int .u8 n] (.bool true) := by
  refine PC.of (.cons (.ground rfl) .nil) (.ground rfl) fun N hN => ?_
  have e0 : n.tmod 30 = n % 30 := Int.tmod_eq_emod_of_nonneg hn.1
  obtain ⟨k, hk⟩ : ∃ k : Nat, 1 + n % 30 = (k : Int) := ⟨(1 + n % 30).toNat, by omega⟩
  have hk1 : 1 ≤ k ∧ k ≤ 30 := by omega
  have hP := pow_pos' k
  have lP := ln_pow k
  have lP2 := ln_pow (2 * k)
  have l1 : ln (1 : Int) ≤ 1 := ln_small (by decide)
  have l2 : ln (2 : Int) ≤ 1 := ln_small (by decide)
  refine ACalls.of_code T.hm (n := 71) Try.func10 rfl rfl rfl rfl ?_; simp only [List.replicate_succ, List.replicate_zero, List.cons_append, List.nil_append]
  simp (maxSteps := 1000000) (disch := first | exact sd | fail) only [go_sem, Nat.reduceAdd, Nat.reduceSub, Nat.reduceLeDiff, ↓reduceIte, decide_eq_true_eq, if_true, if_false, Bool.false_eq_true, Int.lt_irrefl, implies_true, true_and, and_true, eq_self, and_self, beq_self_eq_true, aw_plan (id := 3) pl10_3, pl10_3, aw_plan (id := 12) pl10_12, pl10_12, aw_plan (id := 13) pl10_13, pl10_13, e0, hk]
  refine PC.step (p62 (k := k) (by omega)) fun m1 j1 => ?_
  try simp only [Heap.next_push, Heap.next_set, Heap.next_kill, next_bump, next_E0] at j1
  simp (maxSteps := 1000000) (disch := first | exact sd | fail) only [go_sem, Nat.reduceAdd, Nat.reduceSub, Nat.reduceLeDiff, ↓reduceIte, decide_eq_true_eq, if_true, if_false, Bool.false_eq_true, Int.lt_irrefl, implies_true, true_and, and_true, eq_self, and_self, beq_self_eq_true, aw_plan (id := 3) pl10_3, pl10_3, aw_plan (id := 12) pl10_12, pl10_12, aw_plan (id := 13) pl10_13, pl10_13]
  refine PC.step (p50 (x := 1) (by omega)) fun m2 j2 => ?_
  try simp only [Heap.next_push, Heap.next_set, Heap.next_kill, next_bump, next_E0] at j2
  simp (maxSteps := 1000000) (disch := first | exact sd | fail) only [go_sem, Nat.reduceAdd, Nat.reduceSub, Nat.reduceLeDiff, ↓reduceIte, decide_eq_true_eq, if_true, if_false, Bool.false_eq_true, Int.lt_irrefl, implies_true, true_and, and_true, eq_self, and_self, beq_self_eq_true, aw_plan (id := 3) pl10_3, pl10_3, aw_plan (id := 12) pl10_12, pl10_12, aw_plan (id := 13) pl10_13, pl10_13]
  refine PC.step (p61 (lb_z (by omega)) (lb_z (by omega))) fun m3 j3 => ?_
  try simp only [Heap.next_push, Heap.next_set, Heap.next_kill, next_bump, next_E0] at j3
  have eL : lmb (4294967296 ^ k - 1) = List.replicate k 4294967295 := limbs_pred k
  have eS : sgn (4294967296 ^ k - 1) = false := by unfold sgn; simp; omega
  have lq : ln (4294967296 ^ k - 1) = k := by rw [← len_z, eL]; simp
  simp (maxSteps := 1000000) (disch := first | exact sd | fail) only [go_sem, Nat.reduceAdd, Nat.reduceSub, Nat.reduceLeDiff, ↓reduceIte, decide_eq_true_eq, if_true, if_false, Bool.false_eq_true, Int.lt_irrefl, implies_true, true_and, and_true, eq_self, and_self, beq_self_eq_true, aw_plan (id := 3) pl10_3, pl10_3, aw_plan (id := 12) pl10_12, pl10_12, aw_plan (id := 13) pl10_13, pl10_13, eL, eS, List.length_replicate, ne_eq, not_true_eq_false]
  refine aw_loopS (σ := Nat) (fun i J => [.int .u8 n, J 1, .bool false, .int .i64 k, .pointer (some ⟨m1, 0, none⟩), .pointer (some ⟨m1 + 1, 0, none⟩), .int .i64 i, J 7, J 8, J 9, J 10, J 11, J 12, J 13, J 14, J 15, J 16, J 17, J 18, J 19, J 20, J 21, J 22, J 23, J 24, J 25, J 26, J 27, J 28, J 29, J 30, J 31, J 32, J 33, J 34, J 35, J 36, J 37, J 38, J 39, J 40, J 41, J 42, J 43, J 44, J 45, J 46, J 47, J 48, J 49, J 50, J 51, J 52, J 53, J 54, J 55, J 56, J 57, J 58, J 59, J 60, J 61, J 62, J 63, J 64, J 65, J 66, J 67, J 68, J 69, J 70, J 71]) (fun m i => m = k - i ∧ i ≤ k) k 0 rfl ⟨rfl, Nat.zero_le _⟩ ?_
  rintro m i J ⟨rfl, hi⟩
  have lr : (List.replicate k (4294967295 : Int)).length = k := List.length_replicate
  by_cases h4 : (i : Int) < k
  · have eg : (List.replicate k (4294967295 : Int)).getD i 0 = 4294967295 := by
      rw [List.getD_eq_getElem?_getD, List.getElem?_replicate, if_pos (by omega)]; rfl
    simp (maxSteps := 1000000) (disch := first | exact sd | fail) only [go_sem, Nat.reduceAdd, Nat.reduceSub, Nat.reduceLeDiff, ↓reduceIte, decide_eq_true_eq, if_true, if_false, Bool.false_eq_true, Int.lt_irrefl, implies_true, true_and, and_true, eq_self, and_self, beq_self_eq_true, aw_plan (id := 3) pl10_3, pl10_3, aw_plan (id := 12) pl10_12, pl10_12, aw_plan (id := 13) pl10_13, pl10_13, h4, List.length_replicate, Int.toNat_natCast, eg, ne_eq, not_true_eq_false]
    exact IJ_intro (k := k - (i + 1)) (by omega) (i + 1) rfl ⟨⟨rfl, by omega⟩, rfl⟩
  simp (maxSteps := 1000000) (disch := first | exact sd | fail) only [go_sem, Nat.reduceAdd, Nat.reduceSub, Nat.reduceLeDiff, ↓reduceIte, decide_eq_true_eq, if_true, if_false, Bool.false_eq_true, Int.lt_irrefl, implies_true, true_and, and_true, eq_self, and_self, beq_self_eq_true, aw_plan (id := 3) pl10_3, pl10_3, aw_plan (id := 12) pl10_12, pl10_12, aw_plan (id := 13) pl10_13, pl10_13, h4]
  have lqq := ln_mul (4294967296 ^ k - 1) (4294967296 ^ k - 1)
  have l2p := ln_mul 2 (4294967296 ^ k)
  have ls1 := ln_sub (4294967296 ^ (2 * k)) (2 * 4294967296 ^ k)
  have lpp := ln_mul (4294967296 ^ k) (4294967296 ^ k)
  have e2 : (4294967296 : Int) ^ (2 * k) = 4294967296 ^ k * 4294967296 ^ k := by rw [Nat.two_mul, Int.pow_add]
  have bR : Lb (List.replicate k 4294967295) := by rw [← eL]; exact lb_z (by omega)
  have dR : den false (List.replicate k 4294967295) = 4294967296 ^ k - 1 := by rw [← eL, ← eS, den_z]
  refine PC.step (p54 bR bR) fun m4 j4 => ?_
  try simp only [Heap.next_push, Heap.next_set, Heap.next_kill, next_bump, next_E0] at j4
  simp (maxSteps := 1000000) (disch := first | exact sd | fail) only [go_sem, Nat.reduceAdd, Nat.reduceSub, Nat.reduceLeDiff, ↓reduceIte, decide_eq_true_eq, if_true, if_false, Bool.false_eq_true, Int.lt_irrefl, implies_true, true_and, and_true, eq_self, and_self, beq_self_eq_true, aw_plan (id := 3) pl10_3, pl10_3, aw_plan (id := 12) pl10_12, pl10_12, aw_plan (id := 13) pl10_13, pl10_13, dR, show (2 : Int) * (k : Int) = ((2 * k : Nat) : Int) by omega]
  refine PC.step (p62 (k := 2 * k) (by omega)) fun m5 j5 => ?_
  try simp only [Heap.next_push, Heap.next_set, Heap.next_kill, next_bump, next_E0] at j5
  simp (maxSteps := 1000000) (disch := first | exact sd | fail) only [go_sem, Nat.reduceAdd, Nat.reduceSub, Nat.reduceLeDiff, ↓reduceIte, decide_eq_true_eq, if_true, if_false, Bool.false_eq_true, Int.lt_irrefl, implies_true, true_and, and_true, eq_self, and_self, beq_self_eq_true, aw_plan (id := 3) pl10_3, pl10_3, aw_plan (id := 12) pl10_12, pl10_12, aw_plan (id := 13) pl10_13, pl10_13]
  refine PC.step (p50 (x := 2) (by omega)) fun m6 j6 => ?_
  try simp only [Heap.next_push, Heap.next_set, Heap.next_kill, next_bump, next_E0] at j6
  simp (maxSteps := 1000000) (disch := first | exact sd | fail) only [go_sem, Nat.reduceAdd, Nat.reduceSub, Nat.reduceLeDiff, ↓reduceIte, decide_eq_true_eq, if_true, if_false, Bool.false_eq_true, Int.lt_irrefl, implies_true, true_and, and_true, eq_self, and_self, beq_self_eq_true, aw_plan (id := 3) pl10_3, pl10_3, aw_plan (id := 12) pl10_12, pl10_12, aw_plan (id := 13) pl10_13, pl10_13]
  refine PC.step (p54 (lb_z (by omega)) (lb_z (by omega))) fun m7 j7 => ?_
  try simp only [Heap.next_push, Heap.next_set, Heap.next_kill, next_bump, next_E0] at j7
  simp (maxSteps := 1000000) (disch := first | exact sd | fail) only [go_sem, Nat.reduceAdd, Nat.reduceSub, Nat.reduceLeDiff, ↓reduceIte, decide_eq_true_eq, if_true, if_false, Bool.false_eq_true, Int.lt_irrefl, implies_true, true_and, and_true, eq_self, and_self, beq_self_eq_true, aw_plan (id := 3) pl10_3, pl10_3, aw_plan (id := 12) pl10_12, pl10_12, aw_plan (id := 13) pl10_13, pl10_13]
  refine PC.step (p61 (lb_z (by omega)) (lb_z (by omega))) fun m8 j8 => ?_
  try simp only [Heap.next_push, Heap.next_set, Heap.next_kill, next_bump, next_E0] at j8
  simp (maxSteps := 1000000) (disch := first | exact sd | fail) only [go_sem, Nat.reduceAdd, Nat.reduceSub, Nat.reduceLeDiff, ↓reduceIte, decide_eq_true_eq, if_true, if_false, Bool.false_eq_true, Int.lt_irrefl, implies_true, true_and, and_true, eq_self, and_self, beq_self_eq_true, aw_plan (id := 3) pl10_3, pl10_3, aw_plan (id := 12) pl10_12, pl10_12, aw_plan (id := 13) pl10_13, pl10_13]
  refine PC.step (p50 (x := 1) (by omega)) fun m9 j9 => ?_
  try simp only [Heap.next_push, Heap.next_set, Heap.next_kill, next_bump, next_E0] at j9
  simp (maxSteps := 1000000) (disch := first | exact sd | fail) only [go_sem, Nat.reduceAdd, Nat.reduceSub, Nat.reduceLeDiff, ↓reduceIte, decide_eq_true_eq, if_true, if_false, Bool.false_eq_true, Int.lt_irrefl, implies_true, true_and, and_true, eq_self, and_self, beq_self_eq_true, aw_plan (id := 3) pl10_3, pl10_3, aw_plan (id := 12) pl10_12, pl10_12, aw_plan (id := 13) pl10_13, pl10_13]
  refine PC.step (p60 (lb_z (by omega)) (lb_z (by omega))) fun m10 j10 => ?_
  try simp only [Heap.next_push, Heap.next_set, Heap.next_kill, next_bump, next_E0] at j10
  simp (maxSteps := 1000000) (disch := first | exact sd | fail) only [go_sem, Nat.reduceAdd, Nat.reduceSub, Nat.reduceLeDiff, ↓reduceIte, decide_eq_true_eq, if_true, if_false, Bool.false_eq_true, Int.lt_irrefl, implies_true, true_and, and_true, eq_self, and_self, beq_self_eq_true, aw_plan (id := 3) pl10_3, pl10_3, aw_plan (id := 12) pl10_12, pl10_12, aw_plan (id := 13) pl10_13, pl10_13]
  refine PC.step (p50 (x := 1) (by omega)) fun m11 j11 => ?_
  try simp only [Heap.next_push, Heap.next_set, Heap.next_kill, next_bump, next_E0] at j11
  simp (maxSteps := 1000000) (disch := first | exact sd | fail) only [go_sem, Nat.reduceAdd, Nat.reduceSub, Nat.reduceLeDiff, ↓reduceIte, decide_eq_true_eq, if_true, if_false, Bool.false_eq_true, Int.lt_irrefl, implies_true, true_and, and_true, eq_self, and_self, beq_self_eq_true, aw_plan (id := 3) pl10_3, pl10_3, aw_plan (id := 12) pl10_12, pl10_12, aw_plan (id := 13) pl10_13, pl10_13]
  refine PC.step (p60 bR (lb_z (by omega))) fun m12 j12 => ?_
  try simp only [Heap.next_push, Heap.next_set, Heap.next_kill, next_bump, next_E0] at j12
  simp (maxSteps := 1000000) (disch := first | exact sd | fail) only [go_sem, Nat.reduceAdd, Nat.reduceSub, Nat.reduceLeDiff, ↓reduceIte, decide_eq_true_eq, if_true, if_false, Bool.false_eq_true, Int.lt_irrefl, implies_true, true_and, and_true, eq_self, and_self, beq_self_eq_true, aw_plan (id := 3) pl10_3, pl10_3, aw_plan (id := 12) pl10_12, pl10_12, aw_plan (id := 13) pl10_13, pl10_13, dR]
  refine PC.step (p44t (by rw [Int.sub_add_cancel]; omega) (by omega)) fun m13 j13 => ?_
  try simp only [Heap.next_push, Heap.next_set, Heap.next_kill, next_bump, next_E0] at j13
  simp (maxSteps := 1000000) (disch := first | exact sd | fail) only [go_sem, Nat.reduceAdd, Nat.reduceSub, Nat.reduceLeDiff, ↓reduceIte, decide_eq_true_eq, if_true, if_false, Bool.false_eq_true, Int.lt_irrefl, implies_true, true_and, and_true, eq_self, and_self, beq_self_eq_true, aw_plan (id := 3) pl10_3, pl10_3, aw_plan (id := 12) pl10_12, pl10_12, aw_plan (id := 13) pl10_13, pl10_13]
  refine PC.step (p54 (lb_z (by omega)) (lb_z (by omega))) fun m14 j14 => ?_
  try simp only [Heap.next_push, Heap.next_set, Heap.next_kill, next_bump, next_E0] at j14
  simp (maxSteps := 1000000) (disch := first | exact sd | fail) only [go_sem, Nat.reduceAdd, Nat.reduceSub, Nat.reduceLeDiff, ↓reduceIte, decide_eq_true_eq, if_true, if_false, Bool.false_eq_true, Int.lt_irrefl, implies_true, true_and, and_true, eq_self, and_self, beq_self_eq_true, aw_plan (id := 3) pl10_3, pl10_3, aw_plan (id := 12) pl10_12, pl10_12, aw_plan (id := 13) pl10_13, pl10_13, show (2 : Int) * (k : Int) = ((2 * k : Nat) : Int) by omega]
  refine PC.step (p62 (k := 2 * k) (by omega)) fun m15 j15 => ?_
  try simp only [Heap.next_push, Heap.next_set, Heap.next_kill, next_bump, next_E0] at j15
  simp (maxSteps := 1000000) (disch := first | exact sd | fail) only [go_sem, Nat.reduceAdd, Nat.reduceSub, Nat.reduceLeDiff, ↓reduceIte, decide_eq_true_eq, if_true, if_false, Bool.false_eq_true, Int.lt_irrefl, implies_true, true_and, and_true, eq_self, and_self, beq_self_eq_true, aw_plan (id := 3) pl10_3, pl10_3, aw_plan (id := 12) pl10_12, pl10_12, aw_plan (id := 13) pl10_13, pl10_13]
  refine PC.step (p44t (by omega) e2.symm) fun m16 j16 => ?_
  try simp only [Heap.next_push, Heap.next_set, Heap.next_kill, next_bump, next_E0] at j16
  simp (maxSteps := 1000000) (disch := first | exact sd | fail) only [go_sem, Nat.reduceAdd, Nat.reduceSub, Nat.reduceLeDiff, ↓reduceIte, decide_eq_true_eq, if_true, if_false, Bool.false_eq_true, Int.lt_irrefl, implies_true, true_and, and_true, eq_self, and_self, beq_self_eq_true, aw_plan (id := 3) pl10_3, pl10_3, aw_plan (id := 12) pl10_12, pl10_12, aw_plan (id := 13) pl10_13, pl10_13]
  refine PC.step (p44t (by omega) (by rw [e2]; grind)) fun m17 j17 => ?_
  try simp only [Heap.next_push, Heap.next_set, Heap.next_kill, next_bump, next_E0] at j17
  simp (maxSteps := 1000000) (disch := first | exact sd | fail) only [go_sem, Nat.reduceAdd, Nat.reduceSub, Nat.reduceLeDiff, ↓reduceIte, decide_eq_true_eq, if_true, if_false, Bool.false_eq_true, Int.lt_irrefl, implies_true, true_and, and_true, eq_self, and_self, beq_self_eq_true, aw_plan (id := 3) pl10_3, pl10_3, aw_plan (id := 12) pl10_12, pl10_12, aw_plan (id := 13) pl10_13, pl10_13]
  refine PC.step (p41) fun m18 j18 => ?_
  try simp only [Heap.next_push, Heap.next_set, Heap.next_kill, next_bump, next_E0] at j18
  simp (maxSteps := 1000000) (disch := first | exact sd | fail) only [go_sem, Nat.reduceAdd, Nat.reduceSub, Nat.reduceLeDiff, ↓reduceIte, decide_eq_true_eq, if_true, if_false, Bool.false_eq_true, Int.lt_irrefl, implies_true, true_and, and_true, eq_self, and_self, beq_self_eq_true, aw_plan (id := 3) pl10_3, pl10_3, aw_plan (id := 12) pl10_12, pl10_12, aw_plan (id := 13) pl10_13, pl10_13]
  exact .rfl

theorem lawNumEdges {H : Heap} {xs : List Value} (hf : ∀ b, H.next ≤ b → H.get b = none) (hg : GoodArgs Try.prog H 8 [5] xs) : ACalls Try.prog 10 xs H fun v _ => v = .bool true := by
  obtain ⟨ps, h1, h2, h3⟩ := args_frz hf (by intro t ht; simp only [List.mem_cons, List.not_mem_nil, or_false] at ht; subst ht; kernel_rfl) hg
  obtain ⟨p, ps, rfl, h4, h5⟩ := h3.cons
  obtain rfl := h5.nil
  obtain ⟨n, rfl, hn⟩ := h4.int Try.underlying5
  exact (q10 (wf_u8 hn)).law h1
end Go.Abs
