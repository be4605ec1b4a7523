/- TemplHolds, on values. -/
import Derived.Test.YtfadclnaahanmaaM9
import Derived.Test.YtfadclnaahanmaaL33
set_option linter.unusedVariables false
set_option linter.unusedSimpArgs false
namespace Go.Abs
open Go Go.Proofs
set_option maxRecDepth 100000
set_option maxHeartbeats 40000000
def plL36_36_5 : Plan := ⟨[0, 1, 2, 3, 4, 5, 6], [(7, [], [8, 9, 10, 11, 12, 13, 14, 15, 16]), (17, [], [18, 19])]⟩
def plL36_36_13 : Plan := ⟨[0, 1, 2, 3, 4, 5, 6, 7, 8, 9], [(10, [], [])]⟩
def plL36_36_21 : Plan := ⟨[0, 1, 2, 3, 4, 5, 6, 7, 8, 9], [(10, [], [])]⟩
theorem take_sgl {w : Nat} (hw : w ≤ 6) {X : List (List RQ)} : ((sgl w ++ X).take 40).take (2 * w) = (sgl w).take 40 := by
  have hl : (sgl w).length = 2 * w := sglP_len
  rw [List.take_take, Nat.min_eq_left (by omega), List.take_append_of_le_length (by omega), List.take_of_length_le (by omega), List.take_of_length_le (by omega)]
theorem q36 {k : Int} (hk : 0 ≤ k ∧ k < 256) : PC Try.prog 8 [.int .u8 k] (.bool true) := by
  refine PC.of (.cons (.ground rfl) .nil) (.ground rfl) fun N hN => ?_
  obtain ⟨w, hw⟩ : ∃ w : Nat, k.tmod 7 = (w : Int) := ⟨(k.tmod 7).toNat, by have := Int.tmod_nonneg 7 hk.1; omega⟩
  have hw6 : w ≤ 6 := by have := Int.tmod_lt_of_pos k (show (0 : Int) < 7 by decide); omega
  have w1 : IntKind.i64.wrap k = k := wrap_i64 (by omega) (by omega)
  obtain ⟨p, _, _, hp, ls, lz, lo⟩ := counts hw6
  have s1 : slt (w : Int) = w := by unfold slt; omega
  have a1 := p124 (n := (w : Int))
  have a2 := p126 (n := (w : Int))
  have a3 := p128 (n := (w : Int))
  rw [s1] at a1 a2 a3
  have ra := sm_rwi (n := w) (l := sgl w) sm_sgl hw6
  have rb := sm_rwi (n := w) sm_zon hw6
  have rc := sm_rwi (n := w) sm_oct hw6
  have q1 := p131 (n := w) ra (by rw [ls]; omega)
  have q2 := p131 (n := w) rb (by rw [lz]; omega)
  have q3 := p131 (n := w) rc (by rw [lo]; omega)
  rw [right_sm (l := sgl w) sm_sgl hw6] at q1
  rw [right_sm sm_zon hw6] at q2
  rw [right_sm sm_oct hw6] at q3
  have q4 := p123 ra (by rw [ls]; omega)
  have t1 := take_sgl hw6 (X := dif w)
  have t2 := take_sgl hw6 (X := bth w)
  have ub {i j : Nat} := zon_unlike hw6 (i := i) (j := j)
  have uc {i j : Nat} := oct_unlike hw6 (i := i) (j := j)
  generalize (sgl w).take 40 = A at *
  generalize (sgl w ++ dif w).take 40 = B at *
  generalize (sgl w ++ bth w).take 40 = C at *
  have f1 : (A.length : Int) = 2 * (w : Int) := by omega
  have f2 : ¬ (B.length : Int) < 2 * (w : Int) := by omega
  have f3 : ¬ (C.length : Int) < 2 * (w : Int) := by omega
  unfold Tv at a1 a2 a3 q1 q2 q3 q4
  refine ACalls.of_code T.hm (n := 128) Try.func8 rfl rfl rfl rfl ?_; simp only [List.replicate_succ, List.replicate_zero, List.cons_append, List.nil_append]
  simp (maxSteps := 1000000) (disch := first | exact sd | fail) only [go_sem, Nat.reduceAdd, Nat.reduceSub, Nat.reduceLeDiff, ↓reduceIte, decide_eq_true_eq, if_true, if_false, Bool.false_eq_true, Int.lt_irrefl, implies_true, true_and, and_true, eq_self, and_self, beq_self_eq_true, aw_plan (id := 5) plL36_36_5, plL36_36_5, aw_plan (id := 13) plL36_36_13, plL36_36_13, aw_plan (id := 21) plL36_36_21, plL36_36_21, w1, hw]
  refine PC.step (a1) fun m1 j1 => ?_
  try simp only [Heap.next_push, Heap.next_set, Heap.next_kill, next_bump, next_E0] at j1
  simp (maxSteps := 1000000) (disch := first | exact sd | fail) only [go_sem, Nat.reduceAdd, Nat.reduceSub, Nat.reduceLeDiff, ↓reduceIte, decide_eq_true_eq, if_true, if_false, Bool.false_eq_true, Int.lt_irrefl, implies_true, true_and, and_true, eq_self, and_self, beq_self_eq_true, aw_plan (id := 5) plL36_36_5, plL36_36_5, aw_plan (id := 13) plL36_36_13, plL36_36_13, aw_plan (id := 21) plL36_36_21, plL36_36_21]
  refine PC.step (a2) fun m2 j2 => ?_
  try simp only [Heap.next_push, Heap.next_set, Heap.next_kill, next_bump, next_E0] at j2
  simp (maxSteps := 1000000) (disch := first | exact sd | fail) only [go_sem, Nat.reduceAdd, Nat.reduceSub, Nat.reduceLeDiff, ↓reduceIte, decide_eq_true_eq, if_true, if_false, Bool.false_eq_true, Int.lt_irrefl, implies_true, true_and, and_true, eq_self, and_self, beq_self_eq_true, aw_plan (id := 5) plL36_36_5, plL36_36_5, aw_plan (id := 13) plL36_36_13, plL36_36_13, aw_plan (id := 21) plL36_36_21, plL36_36_21]
  refine PC.step (a3) fun m3 j3 => ?_
  try simp only [Heap.next_push, Heap.next_set, Heap.next_kill, next_bump, next_E0] at j3
  simp (maxSteps := 1000000) (disch := first | exact sd | fail) only [go_sem, Nat.reduceAdd, Nat.reduceSub, Nat.reduceLeDiff, ↓reduceIte, decide_eq_true_eq, if_true, if_false, Bool.false_eq_true, Int.lt_irrefl, implies_true, true_and, and_true, eq_self, and_self, beq_self_eq_true, aw_plan (id := 5) plL36_36_5, plL36_36_5, aw_plan (id := 13) plL36_36_13, plL36_36_13, aw_plan (id := 21) plL36_36_21, plL36_36_21]
  refine PC.step (q1) fun m4 j4 => ?_
  try simp only [Heap.next_push, Heap.next_set, Heap.next_kill, next_bump, next_E0] at j4
  simp (maxSteps := 1000000) (disch := first | exact sd | fail) only [go_sem, Nat.reduceAdd, Nat.reduceSub, Nat.reduceLeDiff, ↓reduceIte, decide_eq_true_eq, if_true, if_false, Bool.false_eq_true, Int.lt_irrefl, implies_true, true_and, and_true, eq_self, and_self, beq_self_eq_true, aw_plan (id := 5) plL36_36_5, plL36_36_5, aw_plan (id := 13) plL36_36_13, plL36_36_13, aw_plan (id := 21) plL36_36_21, plL36_36_21]
  refine PC.step (q2) fun m5 j5 => ?_
  try simp only [Heap.next_push, Heap.next_set, Heap.next_kill, next_bump, next_E0] at j5
  simp (maxSteps := 1000000) (disch := first | exact sd | fail) only [go_sem, Nat.reduceAdd, Nat.reduceSub, Nat.reduceLeDiff, ↓reduceIte, decide_eq_true_eq, if_true, if_false, Bool.false_eq_true, Int.lt_irrefl, implies_true, true_and, and_true, eq_self, and_self, beq_self_eq_true, aw_plan (id := 5) plL36_36_5, plL36_36_5, aw_plan (id := 13) plL36_36_13, plL36_36_13, aw_plan (id := 21) plL36_36_21, plL36_36_21]
  refine PC.step (q3) fun m6 j6 => ?_
  try simp only [Heap.next_push, Heap.next_set, Heap.next_kill, next_bump, next_E0] at j6
  have g0 : (0 : Int) ≤ 2 * (w : Int) := by omega
  have g1 : 2 * (w : Int) ≤ B.length := by omega
  have g2 : 2 * (w : Int) ≤ C.length := by omega
  have e2 : (2 * (w : Int)).toNat = 2 * w := by omega
  simp (maxSteps := 1000000) (disch := first | exact sd | fail) only [go_sem, Nat.reduceAdd, Nat.reduceSub, Nat.reduceLeDiff, ↓reduceIte, decide_eq_true_eq, if_true, if_false, Bool.false_eq_true, Int.lt_irrefl, implies_true, true_and, and_true, eq_self, and_self, beq_self_eq_true, aw_plan (id := 5) plL36_36_5, plL36_36_5, aw_plan (id := 13) plL36_36_13, plL36_36_13, aw_plan (id := 21) plL36_36_21, plL36_36_21, f1, f2, f3, g0, g1, g2, e2, t1, t2, ne_eq, not_true_eq_false]
  refine PC.step (q4) fun m7 j7 => ?_
  try simp only [Heap.next_push, Heap.next_set, Heap.next_kill, next_bump, next_E0] at j7
  simp (maxSteps := 1000000) (disch := first | exact sd | fail) only [go_sem, Nat.reduceAdd, Nat.reduceSub, Nat.reduceLeDiff, ↓reduceIte, decide_eq_true_eq, if_true, if_false, Bool.false_eq_true, Int.lt_irrefl, implies_true, true_and, and_true, eq_self, and_self, beq_self_eq_true, aw_plan (id := 5) plL36_36_5, plL36_36_5, aw_plan (id := 13) plL36_36_13, plL36_36_13, aw_plan (id := 21) plL36_36_21, plL36_36_21, f1, f2, f3, g0, g1, g2, e2, t1, t2, ne_eq, not_true_eq_false]
  refine PC.step (q4) fun m8 j8 => ?_
  try simp only [Heap.next_push, Heap.next_set, Heap.next_kill, next_bump, next_E0] at j8
  simp (maxSteps := 1000000) (disch := first | exact sd | fail) only [go_sem, Nat.reduceAdd, Nat.reduceSub, Nat.reduceLeDiff, ↓reduceIte, decide_eq_true_eq, if_true, if_false, Bool.false_eq_true, Int.lt_irrefl, implies_true, true_and, and_true, eq_self, and_self, beq_self_eq_true, aw_plan (id := 5) plL36_36_5, plL36_36_5, aw_plan (id := 13) plL36_36_13, plL36_36_13, aw_plan (id := 21) plL36_36_21, plL36_36_21, f1, f2, f3, g0, g1, g2, e2, t1, t2, ne_eq, not_true_eq_false]
  refine aw_loopJ (σ := Nat) (fun i J => [J 0, J 1, .bool false, .int .i64 w, .pointer (some ⟨m3, 0, none⟩), .pointer (some ⟨m3 + 1, 0, none⟩), .pointer (some ⟨m3 + 2, 0, none⟩), .int .i64 i, J 8, J 9, J 10, J 11, J 12, J 13, J 14, J 15, J 16, J 17, J 18, J 19, J 20, J 21, J 22, J 23, J 24, J 25, J 26, J 27, J 28, J 29, J 30, J 31, J 32, J 33, J 34, J 35, J 36, J 37, J 38, J 39, J 40, J 41, J 42, J 43, J 44, J 45, J 46, J 47, J 48, J 49, J 50, J 51, J 52, J 53, J 54, J 55, J 56, J 57, J 58, J 59, J 60, J 61, J 62, J 63, J 64, J 65, J 66, J 67, J 68, J 69, J 70, J 71, J 72, J 73, J 74, J 75, J 76, J 77, J 78, J 79, J 80, J 81, J 82, J 83, J 84, J 85, J 86, J 87, J 88, J 89, J 90, J 91, J 92, J 93, J 94, J 95, J 96, J 97, J 98, J 99, J 100, J 101, J 102, J 103, J 104, J 105, J 106, J 107, J 108, J 109, J 110, J 111, J 112, J 113, J 114, J 115, J 116, J 117, J 118, J 119, J 120, J 121, J 122, J 123, J 124, J 125, J 126, J 127, J 128]) (fun m i H1 => m = B.length - i ∧ i ≤ B.length ∧ H1.get (m3 + 1) = some (.row true 25 [Vv eR B]) ∧ H1.get (m3 + 2) = some (.row true 25 [Vv eR C])) B.length 0 rfl ⟨rfl, Nat.zero_le _, by simp (maxSteps := 1000000) (disch := first | exact sd | fail) only [go_sem, Nat.reduceAdd, Nat.reduceSub, Nat.reduceLeDiff, ↓reduceIte, decide_eq_true_eq, if_true, if_false, Bool.false_eq_true, Int.lt_irrefl, implies_true, true_and, and_true, eq_self, and_self, beq_self_eq_true, aw_plan (id := 5) plL36_36_5, plL36_36_5, aw_plan (id := 13) plL36_36_13, plL36_36_13, aw_plan (id := 21) plL36_36_21, plL36_36_21], by simp (maxSteps := 1000000) (disch := first | exact sd | fail) only [go_sem, Nat.reduceAdd, Nat.reduceSub, Nat.reduceLeDiff, ↓reduceIte, decide_eq_true_eq, if_true, if_false, Bool.false_eq_true, Int.lt_irrefl, implies_true, true_and, and_true, eq_self, and_self, beq_self_eq_true, aw_plan (id := 5) plL36_36_5, plL36_36_5, aw_plan (id := 13) plL36_36_13, plL36_36_13, aw_plan (id := 21) plL36_36_21, plL36_36_21]⟩ ?_
  rintro m i J H1 ⟨rfl, hi, gB, gC⟩
  by_cases h4 : (i : Int) < B.length
  · have hi' : i < B.length := by omega
    simp (maxSteps := 1000000) (disch := first | exact sd | fail) only [go_sem, Nat.reduceAdd, Nat.reduceSub, Nat.reduceLeDiff, ↓reduceIte, decide_eq_true_eq, if_true, if_false, Bool.false_eq_true, Int.lt_irrefl, implies_true, true_and, and_true, eq_self, and_self, beq_self_eq_true, aw_plan (id := 5) plL36_36_5, plL36_36_5, aw_plan (id := 13) plL36_36_13, plL36_36_13, aw_plan (id := 21) plL36_36_21, plL36_36_21, h4, gB, gC]
    refine aw_loopJ (σ := Nat) (fun j J => [J 0, J 1, .bool false, .int .i64 w, .pointer (some ⟨m3, 0, none⟩), .pointer (some ⟨m3 + 1, 0, none⟩), .pointer (some ⟨m3 + 2, 0, none⟩), .int .i64 i, .int .i64 j, J 9, J 10, J 11, J 12, J 13, J 14, J 15, J 16, J 17, J 18, J 19, J 20, J 21, J 22, J 23, J 24, J 25, J 26, J 27, J 28, J 29, J 30, J 31, J 32, J 33, J 34, J 35, J 36, J 37, J 38, J 39, J 40, J 41, J 42, J 43, J 44, J 45, J 46, J 47, J 48, J 49, J 50, J 51, J 52, J 53, J 54, J 55, J 56, J 57, J 58, J 59, J 60, J 61, J 62, J 63, J 64, J 65, J 66, J 67, J 68, J 69, J 70, J 71, J 72, J 73, J 74, J 75, J 76, J 77, J 78, J 79, J 80, J 81, J 82, J 83, J 84, J 85, J 86, J 87, J 88, J 89, J 90, J 91, J 92, J 93, J 94, J 95, J 96, J 97, J 98, J 99, J 100, J 101, J 102, J 103, J 104, J 105, J 106, J 107, J 108, J 109, J 110, J 111, J 112, J 113, J 114, J 115, J 116, J 117, J 118, J 119, J 120, J 121, J 122, J 123, J 124, J 125, J 126, J 127, J 128]) (fun m j H1 => m = i - j ∧ j ≤ i ∧ H1.get (m3 + 1) = some (.row true 25 [Vv eR B]) ∧ H1.get (m3 + 2) = some (.row true 25 [Vv eR C])) i 0 rfl ⟨rfl, Nat.zero_le _, gB, gC⟩ ?_
    clear gB gC
    rintro m j J H1 ⟨rfl, hj, gB, gC⟩
    by_cases h5 : (j : Int) < i
    · have q := p97 (rb i) (rb j)
      rw [ub hi' (show j < i by omega)] at q
      have h6 : (j : Int) < B.length := by omega
      simp (maxSteps := 1000000) (disch := first | exact sd | fail) only [go_sem, Nat.reduceAdd, Nat.reduceSub, Nat.reduceLeDiff, ↓reduceIte, decide_eq_true_eq, if_true, if_false, Bool.false_eq_true, Int.lt_irrefl, implies_true, true_and, and_true, eq_self, and_self, beq_self_eq_true, aw_plan (id := 5) plL36_36_5, plL36_36_5, aw_plan (id := 13) plL36_36_13, plL36_36_13, aw_plan (id := 21) plL36_36_21, plL36_36_21, h4, h5, h6, gB, gC, Int.toNat_natCast, show ∀ c, B.getD c [] = rwi B c from fun _ => rfl]
      refine PC.step (q) fun m20 j20 => ?_
      try simp only [Heap.next_push, Heap.next_set, Heap.next_kill, next_bump, next_E0] at j20
      simp (maxSteps := 1000000) (disch := first | exact sd | fail) only [go_sem, Nat.reduceAdd, Nat.reduceSub, Nat.reduceLeDiff, ↓reduceIte, decide_eq_true_eq, if_true, if_false, Bool.false_eq_true, Int.lt_irrefl, implies_true, true_and, and_true, eq_self, and_self, beq_self_eq_true, aw_plan (id := 5) plL36_36_5, plL36_36_5, aw_plan (id := 13) plL36_36_13, plL36_36_13, aw_plan (id := 21) plL36_36_21, plL36_36_21]
      exact IJ_intro (k := i - (j + 1)) (by omega) (j + 1) rfl ⟨rfl, by omega, by simp (maxSteps := 1000000) (disch := first | exact sd | fail) only [go_sem, Nat.reduceAdd, Nat.reduceSub, Nat.reduceLeDiff, ↓reduceIte, decide_eq_true_eq, if_true, if_false, Bool.false_eq_true, Int.lt_irrefl, implies_true, true_and, and_true, eq_self, and_self, beq_self_eq_true, aw_plan (id := 5) plL36_36_5, plL36_36_5, aw_plan (id := 13) plL36_36_13, plL36_36_13, aw_plan (id := 21) plL36_36_21, plL36_36_21, gB], by simp (maxSteps := 1000000) (disch := first | exact sd | fail) only [go_sem, Nat.reduceAdd, Nat.reduceSub, Nat.reduceLeDiff, ↓reduceIte, decide_eq_true_eq, if_true, if_false, Bool.false_eq_true, Int.lt_irrefl, implies_true, true_and, and_true, eq_self, and_self, beq_self_eq_true, aw_plan (id := 5) plL36_36_5, plL36_36_5, aw_plan (id := 13) plL36_36_13, plL36_36_13, aw_plan (id := 21) plL36_36_21, plL36_36_21, gC]⟩
    · simp (maxSteps := 1000000) (disch := first | exact sd | fail) only [go_sem, Nat.reduceAdd, Nat.reduceSub, Nat.reduceLeDiff, ↓reduceIte, decide_eq_true_eq, if_true, if_false, Bool.false_eq_true, Int.lt_irrefl, implies_true, true_and, and_true, eq_self, and_self, beq_self_eq_true, aw_plan (id := 5) plL36_36_5, plL36_36_5, aw_plan (id := 13) plL36_36_13, plL36_36_13, aw_plan (id := 21) plL36_36_21, plL36_36_21, h5]
      exact IJ_intro (k := B.length - (i + 1)) (by omega) (i + 1) rfl ⟨rfl, by omega, gB, gC⟩
  simp (maxSteps := 1000000) (disch := first | exact sd | fail) only [go_sem, Nat.reduceAdd, Nat.reduceSub, Nat.reduceLeDiff, ↓reduceIte, decide_eq_true_eq, if_true, if_false, Bool.false_eq_true, Int.lt_irrefl, implies_true, true_and, and_true, eq_self, and_self, beq_self_eq_true, aw_plan (id := 5) plL36_36_5, plL36_36_5, aw_plan (id := 13) plL36_36_13, plL36_36_13, aw_plan (id := 21) plL36_36_21, plL36_36_21, h4, gB, gC]
  have h4' := h4
  clear h4
  refine aw_loopJ (σ := Nat) (fun i J => [J 0, J 1, .bool false, .int .i64 w, .pointer (some ⟨m3, 0, none⟩), .pointer (some ⟨m3 + 1, 0, none⟩), .pointer (some ⟨m3 + 2, 0, none⟩), J 7, J 8, .int .i64 i, J 10, J 11, J 12, J 13, J 14, J 15, J 16, J 17, J 18, J 19, J 20, J 21, J 22, J 23, J 24, J 25, J 26, J 27, J 28, J 29, J 30, J 31, J 32, J 33, J 34, J 35, J 36, J 37, J 38, J 39, J 40, J 41, J 42, J 43, J 44, J 45, J 46, J 47, J 48, J 49, J 50, J 51, J 52, J 53, J 54, J 55, J 56, J 57, J 58, J 59, J 60, J 61, J 62, J 63, J 64, J 65, J 66, J 67, J 68, J 69, J 70, J 71, J 72, J 73, J 74, J 75, J 76, J 77, J 78, J 79, J 80, J 81, J 82, J 83, J 84, J 85, J 86, J 87, J 88, J 89, J 90, J 91, J 92, J 93, J 94, J 95, J 96, J 97, J 98, J 99, J 100, J 101, J 102, J 103, J 104, J 105, J 106, J 107, J 108, J 109, J 110, J 111, J 112, J 113, J 114, J 115, J 116, J 117, J 118, J 119, J 120, J 121, J 122, J 123, J 124, J 125, J 126, J 127, J 128]) (fun m i H1 => m = C.length - i ∧ i ≤ C.length ∧ H1.get (m3 + 1) = some (.row true 25 [Vv eR B]) ∧ H1.get (m3 + 2) = some (.row true 25 [Vv eR C])) C.length 0 rfl ⟨rfl, Nat.zero_le _, gB, gC⟩ ?_
  rintro m i J H1 ⟨rfl, hi, gB, gC⟩
  by_cases h4 : (i : Int) < C.length
  · have hi' : i < C.length := by omega
    simp (maxSteps := 1000000) (disch := first | exact sd | fail) only [go_sem, Nat.reduceAdd, Nat.reduceSub, Nat.reduceLeDiff, ↓reduceIte, decide_eq_true_eq, if_true, if_false, Bool.false_eq_true, Int.lt_irrefl, implies_true, true_and, and_true, eq_self, and_self, beq_self_eq_true, aw_plan (id := 5) plL36_36_5, plL36_36_5, aw_plan (id := 13) plL36_36_13, plL36_36_13, aw_plan (id := 21) plL36_36_21, plL36_36_21, h4, gB, gC]
    refine aw_loopJ (σ := Nat) (fun j J => [J 0, J 1, .bool false, .int .i64 w, .pointer (some ⟨m3, 0, none⟩), .pointer (some ⟨m3 + 1, 0, none⟩), .pointer (some ⟨m3 + 2, 0, none⟩), J 7, J 8, .int .i64 i, .int .i64 j, J 11, J 12, J 13, J 14, J 15, J 16, J 17, J 18, J 19, J 20, J 21, J 22, J 23, J 24, J 25, J 26, J 27, J 28, J 29, J 30, J 31, J 32, J 33, J 34, J 35, J 36, J 37, J 38, J 39, J 40, J 41, J 42, J 43, J 44, J 45, J 46, J 47, J 48, J 49, J 50, J 51, J 52, J 53, J 54, J 55, J 56, J 57, J 58, J 59, J 60, J 61, J 62, J 63, J 64, J 65, J 66, J 67, J 68, J 69, J 70, J 71, J 72, J 73, J 74, J 75, J 76, J 77, J 78, J 79, J 80, J 81, J 82, J 83, J 84, J 85, J 86, J 87, J 88, J 89, J 90, J 91, J 92, J 93, J 94, J 95, J 96, J 97, J 98, J 99, J 100, J 101, J 102, J 103, J 104, J 105, J 106, J 107, J 108, J 109, J 110, J 111, J 112, J 113, J 114, J 115, J 116, J 117, J 118, J 119, J 120, J 121, J 122, J 123, J 124, J 125, J 126, J 127, J 128]) (fun m j H1 => m = i - j ∧ j ≤ i ∧ H1.get (m3 + 1) = some (.row true 25 [Vv eR B]) ∧ H1.get (m3 + 2) = some (.row true 25 [Vv eR C])) i 0 rfl ⟨rfl, Nat.zero_le _, gB, gC⟩ ?_
    clear gB gC
    rintro m j J H1 ⟨rfl, hj, gB, gC⟩
    by_cases h5 : (j : Int) < i
    · have q := p97 (rc i) (rc j)
      rw [uc hi' (show j < i by omega)] at q
      have h6 : (j : Int) < C.length := by omega
      simp (maxSteps := 1000000) (disch := first | exact sd | fail) only [go_sem, Nat.reduceAdd, Nat.reduceSub, Nat.reduceLeDiff, ↓reduceIte, decide_eq_true_eq, if_true, if_false, Bool.false_eq_true, Int.lt_irrefl, implies_true, true_and, and_true, eq_self, and_self, beq_self_eq_true, aw_plan (id := 5) plL36_36_5, plL36_36_5, aw_plan (id := 13) plL36_36_13, plL36_36_13, aw_plan (id := 21) plL36_36_21, plL36_36_21, h4, h5, h6, gB, gC, Int.toNat_natCast, show ∀ c, C.getD c [] = rwi C c from fun _ => rfl]
      refine PC.step (q) fun m20 j20 => ?_
      try simp only [Heap.next_push, Heap.next_set, Heap.next_kill, next_bump, next_E0] at j20
      simp (maxSteps := 1000000) (disch := first | exact sd | fail) only [go_sem, Nat.reduceAdd, Nat.reduceSub, Nat.reduceLeDiff, ↓reduceIte, decide_eq_true_eq, if_true, if_false, Bool.false_eq_true, Int.lt_irrefl, implies_true, true_and, and_true, eq_self, and_self, beq_self_eq_true, aw_plan (id := 5) plL36_36_5, plL36_36_5, aw_plan (id := 13) plL36_36_13, plL36_36_13, aw_plan (id := 21) plL36_36_21, plL36_36_21]
      exact IJ_intro (k := i - (j + 1)) (by omega) (j + 1) rfl ⟨rfl, by omega, by simp (maxSteps := 1000000) (disch := first | exact sd | fail) only [go_sem, Nat.reduceAdd, Nat.reduceSub, Nat.reduceLeDiff, ↓reduceIte, decide_eq_true_eq, if_true, if_false, Bool.false_eq_true, Int.lt_irrefl, implies_true, true_and, and_true, eq_self, and_self, beq_self_eq_true, aw_plan (id := 5) plL36_36_5, plL36_36_5, aw_plan (id := 13) plL36_36_13, plL36_36_13, aw_plan (id := 21) plL36_36_21, plL36_36_21, gB], by simp (maxSteps := 1000000) (disch := first | exact sd | fail) only [go_sem, Nat.reduceAdd, Nat.reduceSub, Nat.reduceLeDiff, ↓reduceIte, decide_eq_true_eq, if_true, if_false, Bool.false_eq_true, Int.lt_irrefl, implies_true, true_and, and_true, eq_self, and_self, beq_self_eq_true, aw_plan (id := 5) plL36_36_5, plL36_36_5, aw_plan (id := 13) plL36_36_13, plL36_36_13, aw_plan (id := 21) plL36_36_21, plL36_36_21, gC]⟩
    · simp (maxSteps := 1000000) (disch := first | exact sd | fail) only [go_sem, Nat.reduceAdd, Nat.reduceSub, Nat.reduceLeDiff, ↓reduceIte, decide_eq_true_eq, if_true, if_false, Bool.false_eq_true, Int.lt_irrefl, implies_true, true_and, and_true, eq_self, and_self, beq_self_eq_true, aw_plan (id := 5) plL36_36_5, plL36_36_5, aw_plan (id := 13) plL36_36_13, plL36_36_13, aw_plan (id := 21) plL36_36_21, plL36_36_21, h5]
      exact IJ_intro (k := C.length - (i + 1)) (by omega) (i + 1) rfl ⟨rfl, by omega, gB, gC⟩
  simp (maxSteps := 1000000) (disch := first | exact sd | fail) only [go_sem, Nat.reduceAdd, Nat.reduceSub, Nat.reduceLeDiff, ↓reduceIte, decide_eq_true_eq, if_true, if_false, Bool.false_eq_true, Int.lt_irrefl, implies_true, true_and, and_true, eq_self, and_self, beq_self_eq_true, aw_plan (id := 5) plL36_36_5, plL36_36_5, aw_plan (id := 13) plL36_36_13, plL36_36_13, aw_plan (id := 21) plL36_36_21, plL36_36_21, h4, gB, gC]
  refine PC.step (p130) fun m30 j30 => ?_
  try simp only [Heap.next_push, Heap.next_set, Heap.next_kill, next_bump, next_E0] at j30
  simp (maxSteps := 1000000) (disch := first | exact sd | fail) only [go_sem, Nat.reduceAdd, Nat.reduceSub, Nat.reduceLeDiff, ↓reduceIte, decide_eq_true_eq, if_true, if_false, Bool.false_eq_true, Int.lt_irrefl, implies_true, true_and, and_true, eq_self, and_self, beq_self_eq_true, aw_plan (id := 5) plL36_36_5, plL36_36_5, aw_plan (id := 13) plL36_36_13, plL36_36_13, aw_plan (id := 21) plL36_36_21, plL36_36_21]
  exact .rfl
theorem lawTemplHolds {H : Heap} {xs : List Value} (hf : ∀ b, H.next ≤ b → H.get b = none) (hg : GoodArgs Try.prog H 8 [5] xs) : ACalls Try.prog 8 xs H fun v _ => v = .bool true := by
  obtain ⟨ps, h1, h2, h3⟩ := args_frz hf (by intro t ht; simp only [List.mem_cons, List.not_mem_nil, or_false] at ht; subst ht; kernel_rfl) hg
  obtain ⟨p0, ps0, rfl, a0, r0⟩ := h3.cons
  obtain ⟨n, rfl, hn⟩ := a0.int Try.underlying5
  obtain rfl := r0.nil
  exact (q36 (wf_u8 hn)).law h1
end Go.Abs
