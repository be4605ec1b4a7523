/- How many strategies there are at most: the document's. -/
import Derived.Test.YtboekagofficpaaO7
set_option linter.unusedVariables false
set_option linter.unusedSimpArgs false
namespace Go.Abs
open Go Go.Proofs
set_option maxRecDepth 100000
set_option maxHeartbeats 4000000
def plO8_136_17 : Plan := ⟨[0, 1], [(2, [0], []), (3, [], []), (4, [], [])]⟩
theorem prd_rep {a c : Int} {A : List Int} {k : Nat} : a * prd (A ++ List.replicate (k + 1) c) = a * prd (A ++ List.replicate k c) * c := by
  rw [List.replicate_succ', ← List.append_assoc, prd_snoc, Int.mul_assoc]
theorem p136 {l : RW} {r : Int} (h : LimW l) (hs : SmW l) : PC Try.prog 15 [Wv l, .int .i64 r] (Zn (rndV l r)) := by
  have q0 := p202 h hs
  have hw1 := @okW_len l
  have hw2 := @okW_edge l
  unfold rndV
  refine PC.of (.cons pu_W (.cons (.ground rfl) .nil)) pu_in fun N hN => ?_
  generalize okW l = w at *
  obtain ⟨L, S, E, V⟩ := l
  have hn := fewN_le r
  have hf := fewN_if (r := r)
  generalize fewN r = n at *
  unfold Wv at *
  try dsimp only at *
  refine ACalls.of_code T.hm (n := 56) Try.func15 rfl rfl rfl rfl ?_; simp only [List.replicate_succ, List.replicate_zero, List.cons_append, List.nil_append]
  simp (maxSteps := 1000000) (disch := first | exact sd | fail) only [go_sem, Nat.reduceAdd, Nat.reduceSub, Nat.reduceLeDiff, ↓reduceIte, decide_eq_true_eq, if_true, if_false, Bool.false_eq_true, Int.lt_irrefl, implies_true, true_and, and_true, eq_self, and_self, beq_self_eq_true, aw_plan (id := 17) plO8_136_17, plO8_136_17]
  refine PC.step (q0) fun m1 j1 => ?_
  try simp only [Heap.next_push, Heap.next_set, Heap.next_kill, next_bump, next_E0] at j1
  cases w with
  | false =>
    simp (maxSteps := 1000000) (disch := first | exact sd | fail) only [go_sem, Nat.reduceAdd, Nat.reduceSub, Nat.reduceLeDiff, ↓reduceIte, decide_eq_true_eq, if_true, if_false, Bool.false_eq_true, Int.lt_irrefl, implies_true, true_and, and_true, eq_self, and_self, beq_self_eq_true, aw_plan (id := 17) plO8_136_17, plO8_136_17, Bool.not_false]
    exact fz_z0
  | true =>
  obtain ⟨w1, w2, _, w4, _⟩ := hw1 rfl
  have w3 := @hw2 rfl
  clear hw1 hw2 q0 h hs
  rw [if_pos rfl]
  have hp2 : L.length * n ≤ 1600 := Nat.mul_le_mul (show _ ≤ 40 by omega) hn
  have hp : (L.length : Int) * (n : Int) = ((L.length * n : Nat) : Int) := by rw [Int.natCast_mul]
  have hLn : L.length * n ≤ 1600 := hp2
  generalize hgp : L.length * n = p at *
  simp (maxSteps := 1000000) (disch := first | exact sd | fail) only [go_sem, Nat.reduceAdd, Nat.reduceSub, Nat.reduceLeDiff, ↓reduceIte, decide_eq_true_eq, if_true, if_false, Bool.false_eq_true, Int.lt_irrefl, implies_true, true_and, and_true, eq_self, and_self, beq_self_eq_true, aw_plan (id := 17) plO8_136_17, plO8_136_17, Bool.not_true, hf, hp]
  refine PC.step (p53 (x := (p : Int) + 1) (by omega)) fun m2 j2 => ?_
  try simp only [Heap.next_push, Heap.next_set, Heap.next_kill, next_bump, next_E0] at j2
  simp (maxSteps := 1000000) (disch := first | exact sd | fail) only [go_sem, Nat.reduceAdd, Nat.reduceSub, Nat.reduceLeDiff, ↓reduceIte, decide_eq_true_eq, if_true, if_false, Bool.false_eq_true, Int.lt_irrefl, implies_true, true_and, and_true, eq_self, and_self, beq_self_eq_true, aw_plan (id := 17) plO8_136_17, plO8_136_17]
  have l0 : ln ((p : Int) + 1) ≤ 2 := by have := ln_small (z := (p : Int) + 1) (by omega); omega
  have e0 : ((p + 1 : Nat) : Int) = (p : Int) + 1 := by omega
  rw [e0]
  generalize (p : Int) + 1 = a at *
  have z0 : a * prd (alls E n 0) = a := Int.mul_one a
  refine aw_loopJ (σ := Nat) (fun s J => [J 0, .int .i64 n, .pointer (some ⟨N, 0, none⟩), J 3, .pointer (some ⟨N + 1, 0, none⟩), .pointer (some ⟨m2, 0, none⟩), .int .i64 s, J 7, J 8, J 9, J 10, J 11, J 12, J 13, J 14, J 15, J 16, J 17, J 18, J 19, J 20, J 21, J 22, J 23, J 24, J 25, J 26, J 27, J 28, J 29, J 30, J 31, J 32, J 33, J 34, J 35, J 36, J 37, J 38, J 39, J 40, J 41, J 42, J 43, J 44, J 45, J 46, J 47, J 48, J 49, J 50, J 51, J 52, J 53, J 54, J 55, J 56, J 57]) (fun m s H1 => m = L.length - s ∧ s ≤ L.length ∧ m2 < H1.next ∧ H1.get N = some (.row true 27 [Vv eL L, Vv eS S, Vv eE E, Vv eV V]) ∧ H1.get (N + 1) = some (.row true 47 [.bool false, .slice none 0 0]) ∧ H1.get m2 = some (.row true 47 [.bool (sgn (a * prd (alls E n s))), Vv eU (lmb (a * prd (alls E n s)))])) L.length 0 rfl ⟨rfl, Nat.zero_le _, by simp only [next_push, next_bump, next_set]; omega, by simp (maxSteps := 1000000) (disch := first | exact sd | fail) only [go_sem, Nat.reduceAdd, Nat.reduceSub, Nat.reduceLeDiff, ↓reduceIte, decide_eq_true_eq, if_true, if_false, Bool.false_eq_true, Int.lt_irrefl, implies_true, true_and, and_true, eq_self, and_self, beq_self_eq_true, aw_plan (id := 17) plO8_136_17, plO8_136_17], by simp (maxSteps := 1000000) (disch := first | exact sd | fail) only [go_sem, Nat.reduceAdd, Nat.reduceSub, Nat.reduceLeDiff, ↓reduceIte, decide_eq_true_eq, if_true, if_false, Bool.false_eq_true, Int.lt_irrefl, implies_true, true_and, and_true, eq_self, and_self, beq_self_eq_true, aw_plan (id := 17) plO8_136_17, plO8_136_17], by rw [z0]; simp (maxSteps := 1000000) (disch := first | exact sd | fail) only [go_sem, Nat.reduceAdd, Nat.reduceSub, Nat.reduceLeDiff, ↓reduceIte, decide_eq_true_eq, if_true, if_false, Bool.false_eq_true, Int.lt_irrefl, implies_true, true_and, and_true, eq_self, and_self, beq_self_eq_true, aw_plan (id := 17) plO8_136_17, plO8_136_17]⟩ ?_
  rintro m s J H1 ⟨rfl, hs, nx, g1, g2, g3⟩
  by_cases h4 : (s : Int) < L.length
  · simp (maxSteps := 1000000) (disch := first | exact sd | fail) only [go_sem, Nat.reduceAdd, Nat.reduceSub, Nat.reduceLeDiff, ↓reduceIte, decide_eq_true_eq, if_true, if_false, Bool.false_eq_true, Int.lt_irrefl, implies_true, true_and, and_true, eq_self, and_self, beq_self_eq_true, aw_plan (id := 17) plO8_136_17, plO8_136_17, h4, g1]
    refine aw_loopJ (σ := Nat) (fun k J => [J 0, .int .i64 n, .pointer (some ⟨N, 0, none⟩), J 3, .pointer (some ⟨N + 1, 0, none⟩), .pointer (some ⟨m2, 0, none⟩), .int .i64 s, .int .i64 ((cntE (E.take k) s : Int) + 2), .int .i64 k, J 9, J 10, J 11, J 12, J 13, J 14, J 15, J 16, J 17, J 18, J 19, J 20, J 21, J 22, J 23, J 24, J 25, J 26, J 27, J 28, J 29, J 30, J 31, J 32, J 33, J 34, J 35, J 36, J 37, J 38, J 39, J 40, J 41, J 42, J 43, J 44, J 45, J 46, J 47, J 48, J 49, J 50, J 51, J 52, J 53, J 54, J 55, J 56, J 57]) (fun m k H2 => m = E.length - k ∧ k ≤ E.length ∧ H2 = H1) E.length 0 rfl ⟨rfl, Nat.zero_le _, rfl⟩ ?_
    rintro m k J H2 ⟨rfl, hk, rfl⟩
    by_cases h6 : (k : Int) < E.length
    · have h7 : (k : Int).toNat = k := rfl
      have hc := cntE_le (E := E.take k) (i := s)
      have hc2 : (E.take k).length ≤ 200 := by rw [List.length_take]; omega
      have hcs := cntE_succ (E := E) (i := s) (s := k) (by omega)
      by_cases h8 : (E.getD k eE.d).t = s
      · rw [if_pos h8] at hcs
        simp (maxSteps := 1000000) (disch := first | exact sd | fail) only [go_sem, Nat.reduceAdd, Nat.reduceSub, Nat.reduceLeDiff, ↓reduceIte, decide_eq_true_eq, if_true, if_false, Bool.false_eq_true, Int.lt_irrefl, implies_true, true_and, and_true, eq_self, and_self, beq_self_eq_true, aw_plan (id := 17) plO8_136_17, plO8_136_17, h6, h7, g1, h8]
        refine IJ_intro (k := E.length - (k + 1)) (by omega) (k + 1) ?_ ⟨rfl, by omega, rfl⟩
        rw [hcs]
        have e2 : ((cntE (E.take k) s + 1 : Nat) : Int) + 2 = (cntE (E.take k) s : Int) + 2 + 1 := by omega
        rw [e2]
        rfl
      · rw [if_neg h8, Nat.add_zero] at hcs
        simp (maxSteps := 1000000) (disch := first | exact sd | fail) only [go_sem, Nat.reduceAdd, Nat.reduceSub, Nat.reduceLeDiff, ↓reduceIte, decide_eq_true_eq, if_true, if_false, Bool.false_eq_true, Int.lt_irrefl, implies_true, true_and, and_true, eq_self, and_self, beq_self_eq_true, aw_plan (id := 17) plO8_136_17, plO8_136_17, h6, h7, g1, h8]
        refine IJ_intro (k := E.length - (k + 1)) (by omega) (k + 1) ?_ ⟨rfl, by omega, rfl⟩
        rw [hcs]
        rfl
    have e : k = E.length := by omega
    subst e
    rw [List.take_length]
    have hc := cntE_le (E := E) (i := s)
    have hall := alls_succ (E := E) (n := n) (s := s)
    have hal1 := alls_len (E := E) (n := n) (s := s + 1)
    have ham1 := alls_mem (E := E) (n := n) (s := s + 1) w4
    have hal2 : (s + 1) * n ≤ 1600 := Nat.mul_le_mul (show _ ≤ 40 by omega) hn
    have hal0 := alls_len (E := E) (n := n) (s := s)
    generalize hA1 : alls E n (s + 1) = A1 at *
    generalize alls E n s = A0 at *
    generalize cntE E s = c at *
    simp (maxSteps := 1000000) (disch := first | exact sd | fail) only [go_sem, Nat.reduceAdd, Nat.reduceSub, Nat.reduceLeDiff, ↓reduceIte, decide_eq_true_eq, if_true, if_false, Bool.false_eq_true, Int.lt_irrefl, implies_true, true_and, and_true, eq_self, and_self, beq_self_eq_true, aw_plan (id := 17) plO8_136_17, plO8_136_17, h6, g1]
    refine aw_loopJ (σ := Nat) (fun k J => [J 0, .int .i64 n, .pointer (some ⟨N, 0, none⟩), J 3, .pointer (some ⟨N + 1, 0, none⟩), .pointer (some ⟨m2, 0, none⟩), .int .i64 s, .int .i64 ((c : Int) + 2), J 8, .int .i64 k, J 10, J 11, J 12, J 13, J 14, J 15, J 16, J 17, J 18, J 19, J 20, J 21, J 22, J 23, J 24, J 25, J 26, J 27, J 28, J 29, J 30, J 31, J 32, J 33, J 34, J 35, J 36, J 37, J 38, J 39, J 40, J 41, J 42, J 43, J 44, J 45, J 46, J 47, J 48, J 49, J 50, J 51, J 52, J 53, J 54, J 55, J 56, J 57]) (fun m k H2 => m = n - k ∧ k ≤ n ∧ m2 < H2.next ∧ H2.get N = some (.row true 27 [Vv eL L, Vv eS S, Vv eE E, Vv eV V]) ∧ H2.get (N + 1) = some (.row true 47 [.bool false, .slice none 0 0]) ∧ H2.get m2 = some (.row true 47 [.bool (sgn (a * prd (A0 ++ List.replicate k ((c : Int) + 2)))), Vv eU (lmb (a * prd (A0 ++ List.replicate k ((c : Int) + 2))))])) n 0 rfl ⟨rfl, Nat.zero_le _, nx, g1, g2, by rw [List.replicate_zero, List.append_nil]; exact g3⟩ ?_
    clear g1 g2 g3 nx
    rintro m k J H3 ⟨rfl, hk, nx, g1, g2, g3⟩
    by_cases h7 : (k : Int) < n
    · have lx : ln (a * prd (A0 ++ List.replicate k ((c : Int) + 2))) ≤ 2000 := by
        have e : A0 ++ List.replicate k ((c : Int) + 2) = A1.take (s * n + k) := by
          rw [hall, ← hal0, List.take_length_add_append, List.take_replicate, Nat.min_eq_left (by omega)]
        rw [e]
        have := ln_prd l0 ham1 (s * n + k) (by rw [hal1, Nat.succ_mul]; omega)
        rw [Nat.succ_mul] at hal2
        omega
      have lc : ln ((c : Int) + 2) ≤ 1 := ln_small (by omega)
      have es := prd_rep (a := a) (c := (c : Int) + 2) (A := A0) (k := k)
      have q65 := p65z (a := a * prd (A0 ++ List.replicate k ((c : Int) + 2))) (b := (c : Int) + 2) (by omega) (by omega)
      generalize hB1 : a * prd (A0 ++ List.replicate (k + 1) ((c : Int) + 2)) = B1 at *
      generalize a * prd (A0 ++ List.replicate k ((c : Int) + 2)) = B0 at *
      simp (maxSteps := 1000000) (disch := first | exact sd | fail) only [go_sem, Nat.reduceAdd, Nat.reduceSub, Nat.reduceLeDiff, ↓reduceIte, decide_eq_true_eq, if_true, if_false, Bool.false_eq_true, Int.lt_irrefl, implies_true, true_and, and_true, eq_self, and_self, beq_self_eq_true, aw_plan (id := 17) plO8_136_17, plO8_136_17, h7, g3]
      refine PC.step (p53 (x := (c : Int) + 2) (by omega)) fun m3 j3 => ?_
      try simp only [Heap.next_push, Heap.next_set, Heap.next_kill, next_bump, next_E0] at j3
      simp (maxSteps := 1000000) (disch := first | exact sd | fail) only [go_sem, Nat.reduceAdd, Nat.reduceSub, Nat.reduceLeDiff, ↓reduceIte, decide_eq_true_eq, if_true, if_false, Bool.false_eq_true, Int.lt_irrefl, implies_true, true_and, and_true, eq_self, and_self, beq_self_eq_true, aw_plan (id := 17) plO8_136_17, plO8_136_17, g3]
      refine PC.step (q65) fun m4 j4 => ?_
      try simp only [Heap.next_push, Heap.next_set, Heap.next_kill, next_bump, next_E0] at j4
      rw [← es]
      simp (maxSteps := 1000000) (disch := first | exact sd | fail) only [go_sem, Nat.reduceAdd, Nat.reduceSub, Nat.reduceLeDiff, ↓reduceIte, decide_eq_true_eq, if_true, if_false, Bool.false_eq_true, Int.lt_irrefl, implies_true, true_and, and_true, eq_self, and_self, beq_self_eq_true, aw_plan (id := 17) plO8_136_17, plO8_136_17, g3]
      exact IJ_intro (k := n - (k + 1)) (by omega) (k + 1) rfl ⟨rfl, by omega, by simp only [next_push, next_bump, next_set] at j3 j4 ⊢; omega, by simp (maxSteps := 1000000) (disch := first | exact sd | fail) only [go_sem, Nat.reduceAdd, Nat.reduceSub, Nat.reduceLeDiff, ↓reduceIte, decide_eq_true_eq, if_true, if_false, Bool.false_eq_true, Int.lt_irrefl, implies_true, true_and, and_true, eq_self, and_self, beq_self_eq_true, aw_plan (id := 17) plO8_136_17, plO8_136_17, g1], by simp (maxSteps := 1000000) (disch := first | exact sd | fail) only [go_sem, Nat.reduceAdd, Nat.reduceSub, Nat.reduceLeDiff, ↓reduceIte, decide_eq_true_eq, if_true, if_false, Bool.false_eq_true, Int.lt_irrefl, implies_true, true_and, and_true, eq_self, and_self, beq_self_eq_true, aw_plan (id := 17) plO8_136_17, plO8_136_17, g2], by rw [hB1]; simp (maxSteps := 1000000) (disch := first | exact sd | fail) only [go_sem, Nat.reduceAdd, Nat.reduceSub, Nat.reduceLeDiff, ↓reduceIte, decide_eq_true_eq, if_true, if_false, Bool.false_eq_true, Int.lt_irrefl, implies_true, true_and, and_true, eq_self, and_self, beq_self_eq_true, aw_plan (id := 17) plO8_136_17, plO8_136_17]⟩
    · have e : k = n := by omega
      subst e
      simp (maxSteps := 1000000) (disch := first | exact sd | fail) only [go_sem, Nat.reduceAdd, Nat.reduceSub, Nat.reduceLeDiff, ↓reduceIte, decide_eq_true_eq, if_true, if_false, Bool.false_eq_true, Int.lt_irrefl, implies_true, true_and, and_true, eq_self, and_self, beq_self_eq_true, aw_plan (id := 17) plO8_136_17, plO8_136_17, h7]
      rw [← hall] at g3
      exact IJ_intro (k := L.length - (s + 1)) (by omega) (s + 1) rfl ⟨rfl, by omega, nx, g1, g2, by rw [hA1]; exact g3⟩
  have e : s = L.length := by omega
  subst e
  simp (maxSteps := 1000000) (disch := first | exact sd | fail) only [go_sem, Nat.reduceAdd, Nat.reduceSub, Nat.reduceLeDiff, ↓reduceIte, decide_eq_true_eq, if_true, if_false, Bool.false_eq_true, Int.lt_irrefl, implies_true, true_and, and_true, eq_self, and_self, beq_self_eq_true, aw_plan (id := 17) plO8_136_17, plO8_136_17, h4, g1, g2, g3]
  exact .rfl
end Go.Abs
