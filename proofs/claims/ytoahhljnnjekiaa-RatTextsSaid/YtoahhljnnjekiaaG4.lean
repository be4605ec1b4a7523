/- The document's own Read of a rational, whole. -/
import Derived.Test.YtoahhljnnjekiaaGa
set_option linter.unusedVariables false
set_option linter.unusedSimpArgs false
namespace Go.Abs
open Go Go.Proofs
set_option maxRecDepth 100000
set_option maxHeartbeats 4000000
def plG4_80_13 : Plan := ⟨[0], [(1, [0], [2]), (3, [], [4])]⟩
def plG4_80_21 : Plan := ⟨[0], [(1, [], [2, 3, 4]), (5, [4], []), (6, [], [7])]⟩
theorem p80 {s : ByteArray} (hs : s.size ≤ 5000) : PC Try.prog 51 [.string s] (resQ s) := by
  refine PC.of (.cons (.ground rfl) .nil) pu_res fun N hN => ?_
  have hl := ln_str (P := Try.prog) (s := s) Try.underlying9
  have hc := chs_len s
  have hcI := cutI_bd s
  have hA := cutA_len (s := s)
  have hB := cutB_len (s := s)
  have cA := chs_len (cutA s)
  have cB := chs_len (cutB s)
  have q2 := p153 (s := s) hs
  have q3 := p153 (s := cutA s) (by omega)
  have q4 := p153 (s := cutB s) (by omega)
  have n1 := ln_zd (chs s)
  have n2 := ln_zd (chs (cutA s))
  have n3 := ln_zd (chs (cutB s))
  have l1 := ln_one
  have n5 : ¬ (10001 : Int) < (chs s).length := by omega
  have hx := fun (i : Nat) (hi : (i : Int) < (chs s).length) => ix_str (P := Try.prog) (s := s) (k := .i64) (i := (i : Int)) Try.underlying9 (by omega) hi
  have p1 := p53 (x := 1) (by omega)
  unfold resQ
  refine ACalls.of_code T.hm (n := 84) Try.func51 rfl rfl rfl rfl ?_; simp only [List.replicate_succ, List.replicate_zero, List.cons_append, List.nil_append]
  by_cases h : cutI s < 0
  · rw [if_pos h]
    have hno := cutI_none h
    simp (maxSteps := 1000000) (disch := first | exact sd | fail) only [go_sem, Nat.reduceAdd, Nat.reduceSub, Nat.reduceLeDiff, ↓reduceIte, decide_eq_true_eq, if_true, if_false, Bool.false_eq_true, Int.lt_irrefl, implies_true, true_and, and_true, eq_self, and_self, beq_self_eq_true, aw_plan (id := 13) plG4_80_13, plG4_80_13, aw_plan (id := 21) plG4_80_21, plG4_80_21, hl, n5]
    refine aw_loopS (σ := Nat) (fun j J => [.string s, J 1, .pointer (some ⟨N, 0, none⟩), .int .i64 0, .int .i64 (-1), .int .i64 j, J 6, J 7, J 8, J 9, J 10, J 11, J 12, J 13, J 14, J 15, J 16, J 17, J 18, J 19, J 20, J 21, J 22, J 23, J 24, J 25, J 26, J 27, J 28, J 29, J 30, J 31, J 32, J 33, J 34, J 35, J 36, J 37, J 38, J 39, J 40, J 41, J 42, J 43, J 44, J 45, J 46, J 47, J 48, J 49, J 50, J 51, J 52, J 53, J 54, J 55, J 56, J 57, J 58, J 59, J 60, J 61, J 62, J 63, J 64, J 65, J 66, J 67, J 68, J 69, J 70, J 71, J 72, J 73, J 74, J 75, J 76, J 77, J 78, J 79, J 80, J 81, J 82, J 83, J 84]) (fun m j => m = (chs s).length - j ∧ j ≤ (chs s).length) (chs s).length 0 rfl ⟨rfl, Nat.zero_le _⟩ ?_
    rintro m j J ⟨rfl, hj⟩
    by_cases h4 : (j : Int) < (chs s).length
    · have hxj := hx j h4
      rw [Int.toNat_natCast] at hxj
      have hne : ¬ (chs s).getD j 0 = 47 := by
        have hj2 : j < (chs s).length := by omega
        rw [List.getD_eq_getElem?_getD, List.getElem?_eq_getElem hj2]
        exact hno _ (List.getElem_mem hj2)
      simp (maxSteps := 1000000) (disch := first | exact sd | fail) only [go_sem, Nat.reduceAdd, Nat.reduceSub, Nat.reduceLeDiff, ↓reduceIte, decide_eq_true_eq, if_true, if_false, Bool.false_eq_true, Int.lt_irrefl, implies_true, true_and, and_true, eq_self, and_self, beq_self_eq_true, aw_plan (id := 13) plG4_80_13, plG4_80_13, aw_plan (id := 21) plG4_80_21, plG4_80_21, hl, h4, hxj, hne, show (-1 : Int) < 0 by decide]
      exact IJ_intro (k := (chs s).length - (j + 1)) (by omega) (j + 1) rfl ⟨⟨rfl, by omega⟩, rfl⟩
    · clear hx hno
      generalize zdV (chs s) = a at *
      cases hok : okN (chs s) with
      | false =>
        rw [hok] at q2
        rw [if_neg (by decide)]
        simp (maxSteps := 1000000) (disch := first | exact sd | fail) only [go_sem, Nat.reduceAdd, Nat.reduceSub, Nat.reduceLeDiff, ↓reduceIte, decide_eq_true_eq, if_true, if_false, Bool.false_eq_true, Int.lt_irrefl, implies_true, true_and, and_true, eq_self, and_self, beq_self_eq_true, aw_plan (id := 13) plG4_80_13, plG4_80_13, aw_plan (id := 21) plG4_80_21, plG4_80_21, hl, h4, show (-1 : Int) < 0 by decide]
        refine PC.step (q2) fun m1 j1 => ?_
        try simp only [Heap.next_push, Heap.next_set, Heap.next_kill, next_bump, next_E0] at j1
        simp (maxSteps := 1000000) (disch := first | exact sd | fail) only [go_sem, Nat.reduceAdd, Nat.reduceSub, Nat.reduceLeDiff, ↓reduceIte, decide_eq_true_eq, if_true, if_false, Bool.false_eq_true, Int.lt_irrefl, implies_true, true_and, and_true, eq_self, and_self, beq_self_eq_true, aw_plan (id := 13) plG4_80_13, plG4_80_13, aw_plan (id := 21) plG4_80_21, plG4_80_21, Bool.not_false]
        exact fz_er
      | true =>
        rw [hok] at q2
        rw [if_pos rfl]
        simp (maxSteps := 1000000) (disch := first | exact sd | fail) only [go_sem, Nat.reduceAdd, Nat.reduceSub, Nat.reduceLeDiff, ↓reduceIte, decide_eq_true_eq, if_true, if_false, Bool.false_eq_true, Int.lt_irrefl, implies_true, true_and, and_true, eq_self, and_self, beq_self_eq_true, aw_plan (id := 13) plG4_80_13, plG4_80_13, aw_plan (id := 21) plG4_80_21, plG4_80_21, hl, h4, show (-1 : Int) < 0 by decide]
        refine PC.step (q2) fun m1 j1 => ?_
        try simp only [Heap.next_push, Heap.next_set, Heap.next_kill, next_bump, next_E0] at j1
        simp (maxSteps := 1000000) (disch := first | exact sd | fail) only [go_sem, Nat.reduceAdd, Nat.reduceSub, Nat.reduceLeDiff, ↓reduceIte, decide_eq_true_eq, if_true, if_false, Bool.false_eq_true, Int.lt_irrefl, implies_true, true_and, and_true, eq_self, and_self, beq_self_eq_true, aw_plan (id := 13) plG4_80_13, plG4_80_13, aw_plan (id := 21) plG4_80_21, plG4_80_21, Bool.not_true]
        refine PC.step (p1) fun m2 j2 => ?_
        try simp only [Heap.next_push, Heap.next_set, Heap.next_kill, next_bump, next_E0] at j2
        simp (maxSteps := 1000000) (disch := first | exact sd | fail) only [go_sem, Nat.reduceAdd, Nat.reduceSub, Nat.reduceLeDiff, ↓reduceIte, decide_eq_true_eq, if_true, if_false, Bool.false_eq_true, Int.lt_irrefl, implies_true, true_and, and_true, eq_self, and_self, beq_self_eq_true, aw_plan (id := 13) plG4_80_13, plG4_80_13, aw_plan (id := 21) plG4_80_21, plG4_80_21]
        exact .rfl
  · rw [if_neg h]
    obtain ⟨c, hcc⟩ : ∃ c : Nat, cutI s = c := ⟨(cutI s).toNat, by omega⟩
    obtain ⟨s1, s2, s3⟩ := cutI_some hcc
    have g1 := fun H => up_str (P := Try.prog) (H := H) (s := s) (k := .i64) (i := (c : Int)) Try.underlying9 (by omega) (by omega)
    have g2 := fun H => sl_str (P := Try.prog) (H := H) (s := s) (k := .i64) (i := (c : Int) + 1) Try.underlying9 (by omega) (by omega)
    rw [show ((c : Int) + 1).toNat = (cutI s).toNat + 1 by omega] at g2
    rw [show ((c : Int)).toNat = (cutI s).toNat by omega] at g1
    rw [show s.extract ((cutI s).toNat + 1) s.size = cutB s from rfl] at g2
    rw [show s.extract 0 ((cutI s).toNat) = cutA s from rfl] at g1
    have lg := gcd_lb (K := 5000) (a := zdV (chs (cutA s))) (b := zdV (chs (cutB s))) (by omega) (by omega)
    simp (maxSteps := 1000000) (disch := first | exact sd | fail) only [go_sem, Nat.reduceAdd, Nat.reduceSub, Nat.reduceLeDiff, ↓reduceIte, decide_eq_true_eq, if_true, if_false, Bool.false_eq_true, Int.lt_irrefl, implies_true, true_and, and_true, eq_self, and_self, beq_self_eq_true, aw_plan (id := 13) plG4_80_13, plG4_80_13, aw_plan (id := 21) plG4_80_21, plG4_80_21, hl, n5]
    refine aw_loopS (σ := Nat × Int) (fun st J => [.string s, J 1, .pointer (some ⟨N, 0, none⟩), .int .i64 0, .int .i64 st.2, .int .i64 st.1, J 6, J 7, J 8, J 9, J 10, J 11, J 12, J 13, J 14, J 15, J 16, J 17, J 18, J 19, J 20, J 21, J 22, J 23, J 24, J 25, J 26, J 27, J 28, J 29, J 30, J 31, J 32, J 33, J 34, J 35, J 36, J 37, J 38, J 39, J 40, J 41, J 42, J 43, J 44, J 45, J 46, J 47, J 48, J 49, J 50, J 51, J 52, J 53, J 54, J 55, J 56, J 57, J 58, J 59, J 60, J 61, J 62, J 63, J 64, J 65, J 66, J 67, J 68, J 69, J 70, J 71, J 72, J 73, J 74, J 75, J 76, J 77, J 78, J 79, J 80, J 81, J 82, J 83, J 84]) (fun m st => m = (chs s).length - st.1 ∧ st.1 ≤ (chs s).length ∧ ((st.2 = -1 ∧ st.1 ≤ c) ∨ (st.2 = c ∧ st.1 = c + 1))) (chs s).length (0, -1) rfl ⟨rfl, Nat.zero_le _, .inl ⟨rfl, Nat.zero_le _⟩⟩ ?_
    rintro m ⟨j, t⟩ J ⟨rfl, hj, ⟨rfl, hjc⟩ | ⟨rfl, hjc⟩⟩
    · simp only at hj hjc
      have h4 : (j : Int) < (chs s).length := by omega
      have hxj := hx j h4
      rw [Int.toNat_natCast] at hxj
      by_cases hjc2 : j = c
      · subst hjc2
        simp (maxSteps := 1000000) (disch := first | exact sd | fail) only [go_sem, Nat.reduceAdd, Nat.reduceSub, Nat.reduceLeDiff, ↓reduceIte, decide_eq_true_eq, if_true, if_false, Bool.false_eq_true, Int.lt_irrefl, implies_true, true_and, and_true, eq_self, and_self, beq_self_eq_true, aw_plan (id := 13) plG4_80_13, plG4_80_13, aw_plan (id := 21) plG4_80_21, plG4_80_21, hl, h4, hxj, s2, show (-1 : Int) < 0 by decide]
        exact IJ_intro (k := (chs s).length - (j + 1)) (by omega) (j + 1, (j : Int)) rfl ⟨⟨rfl, by simp only; omega, .inr ⟨rfl, rfl⟩⟩, rfl⟩
      · have hne := s3 j (by omega)
        simp (maxSteps := 1000000) (disch := first | exact sd | fail) only [go_sem, Nat.reduceAdd, Nat.reduceSub, Nat.reduceLeDiff, ↓reduceIte, decide_eq_true_eq, if_true, if_false, Bool.false_eq_true, Int.lt_irrefl, implies_true, true_and, and_true, eq_self, and_self, beq_self_eq_true, aw_plan (id := 13) plG4_80_13, plG4_80_13, aw_plan (id := 21) plG4_80_21, plG4_80_21, hl, h4, hxj, hne, show (-1 : Int) < 0 by decide]
        exact IJ_intro (k := (chs s).length - (j + 1)) (by omega) (j + 1, -1) rfl ⟨⟨rfl, by simp only; omega, .inl ⟨rfl, by simp only; omega⟩⟩, rfl⟩
    · have hc0 : ¬ (c : Int) < 0 := by omega
      clear hx s1 s2 s3
      simp only at hj hjc
      generalize cutA s = sa at *
      generalize cutB s = sb at *
      generalize hqa : zdV (chs sa) = a at *
      generalize hqb : zdV (chs sb) = b at *
      have q6 := p74 (pn := sgn a) (pl := lmb a) (qn := sgn b) (ql := lmb b) (lb_z (by omega)) (lb_z (by omega)) (by rw [len_z]; omega) (by rw [len_z]; omega)
      have q7 := p44 (n := sgn b) (l := lmb b) (m := sgn 1) (k := lmb 1) (lb_z (by omega)) (lb_z (by omega))
      rw [z_one] at q7
      have hlb : ln b = 0 ↔ b = 0 := ln_eq_zero
      have hzl : ((lmb b).length : Int) = ln b := by rw [len_z]
      have hmz := mayQ_z (a := a) (b := b)
      have hgb : b = 1 → Int.gcd a b = 1 := fun e => by rw [e, Int.gcd_one]
      generalize mayQ (sgn a) (lmb a) (sgn b) (lmb b) = mq at *
      generalize Int.gcd a b = g at *
      clear hA hB cA cB n1 n2 n3 lg hc l1 hqa hqb
      by_cases h4 : (j : Int) < (chs s).length
      · skip
        cases hokA : okN (chs sa) with
        | false =>
          rw [hokA] at q3
          rw [if_neg (by decide)]
          simp (maxSteps := 1000000) (disch := first | exact sd | fail) only [go_sem, Nat.reduceAdd, Nat.reduceSub, Nat.reduceLeDiff, ↓reduceIte, decide_eq_true_eq, if_true, if_false, Bool.false_eq_true, Int.lt_irrefl, implies_true, true_and, and_true, eq_self, and_self, beq_self_eq_true, aw_plan (id := 13) plG4_80_13, plG4_80_13, aw_plan (id := 21) plG4_80_21, plG4_80_21, hl, h4, hc0, g1]
          refine PC.step (q3) fun m1 j1 => ?_
          try simp only [Heap.next_push, Heap.next_set, Heap.next_kill, next_bump, next_E0] at j1
          simp (maxSteps := 1000000) (disch := first | exact sd | fail) only [go_sem, Nat.reduceAdd, Nat.reduceSub, Nat.reduceLeDiff, ↓reduceIte, decide_eq_true_eq, if_true, if_false, Bool.false_eq_true, Int.lt_irrefl, implies_true, true_and, and_true, eq_self, and_self, beq_self_eq_true, aw_plan (id := 13) plG4_80_13, plG4_80_13, aw_plan (id := 21) plG4_80_21, plG4_80_21, g2]
          refine PC.step (q4) fun m2 j2 => ?_
          try simp only [Heap.next_push, Heap.next_set, Heap.next_kill, next_bump, next_E0] at j2
          simp (maxSteps := 1000000) (disch := first | exact sd | fail) only [go_sem, Nat.reduceAdd, Nat.reduceSub, Nat.reduceLeDiff, ↓reduceIte, decide_eq_true_eq, if_true, if_false, Bool.false_eq_true, Int.lt_irrefl, implies_true, true_and, and_true, eq_self, and_self, beq_self_eq_true, aw_plan (id := 13) plG4_80_13, plG4_80_13, aw_plan (id := 21) plG4_80_21, plG4_80_21, Bool.not_false]
          exact fz_er
        | true =>
          rw [hokA] at q3
          rw [if_pos rfl]
          cases hokB : okN (chs sb) with
          | false =>
            rw [hokB] at q4
            rw [if_neg (by decide)]
            simp (maxSteps := 1000000) (disch := first | exact sd | fail) only [go_sem, Nat.reduceAdd, Nat.reduceSub, Nat.reduceLeDiff, ↓reduceIte, decide_eq_true_eq, if_true, if_false, Bool.false_eq_true, Int.lt_irrefl, implies_true, true_and, and_true, eq_self, and_self, beq_self_eq_true, aw_plan (id := 13) plG4_80_13, plG4_80_13, aw_plan (id := 21) plG4_80_21, plG4_80_21, hl, h4, hc0, g1]
            refine PC.step (q3) fun m1 j1 => ?_
            try simp only [Heap.next_push, Heap.next_set, Heap.next_kill, next_bump, next_E0] at j1
            simp (maxSteps := 1000000) (disch := first | exact sd | fail) only [go_sem, Nat.reduceAdd, Nat.reduceSub, Nat.reduceLeDiff, ↓reduceIte, decide_eq_true_eq, if_true, if_false, Bool.false_eq_true, Int.lt_irrefl, implies_true, true_and, and_true, eq_self, and_self, beq_self_eq_true, aw_plan (id := 13) plG4_80_13, plG4_80_13, aw_plan (id := 21) plG4_80_21, plG4_80_21, g2]
            refine PC.step (q4) fun m2 j2 => ?_
            try simp only [Heap.next_push, Heap.next_set, Heap.next_kill, next_bump, next_E0] at j2
            simp (maxSteps := 1000000) (disch := first | exact sd | fail) only [go_sem, Nat.reduceAdd, Nat.reduceSub, Nat.reduceLeDiff, ↓reduceIte, decide_eq_true_eq, if_true, if_false, Bool.false_eq_true, Int.lt_irrefl, implies_true, true_and, and_true, eq_self, and_self, beq_self_eq_true, aw_plan (id := 13) plG4_80_13, plG4_80_13, aw_plan (id := 21) plG4_80_21, plG4_80_21, Bool.not_false, Bool.not_true]
            exact fz_er
          | true =>
            rw [hokB] at q4
            rw [if_pos rfl]
            by_cases hb0 : b = 0
            · have hz0 : (ln b : Int) = 0 := by omega
              rw [if_neg (by omega), if_pos hb0]
              simp (maxSteps := 1000000) (disch := first | exact sd | fail) only [go_sem, Nat.reduceAdd, Nat.reduceSub, Nat.reduceLeDiff, ↓reduceIte, decide_eq_true_eq, if_true, if_false, Bool.false_eq_true, Int.lt_irrefl, implies_true, true_and, and_true, eq_self, and_self, beq_self_eq_true, aw_plan (id := 13) plG4_80_13, plG4_80_13, aw_plan (id := 21) plG4_80_21, plG4_80_21, hl, h4, hc0, g1]
              refine PC.step (q3) fun m1 j1 => ?_
              try simp only [Heap.next_push, Heap.next_set, Heap.next_kill, next_bump, next_E0] at j1
              simp (maxSteps := 1000000) (disch := first | exact sd | fail) only [go_sem, Nat.reduceAdd, Nat.reduceSub, Nat.reduceLeDiff, ↓reduceIte, decide_eq_true_eq, if_true, if_false, Bool.false_eq_true, Int.lt_irrefl, implies_true, true_and, and_true, eq_self, and_self, beq_self_eq_true, aw_plan (id := 13) plG4_80_13, plG4_80_13, aw_plan (id := 21) plG4_80_21, plG4_80_21, g2]
              refine PC.step (q4) fun m2 j2 => ?_
              try simp only [Heap.next_push, Heap.next_set, Heap.next_kill, next_bump, next_E0] at j2
              simp (maxSteps := 1000000) (disch := first | exact sd | fail) only [go_sem, Nat.reduceAdd, Nat.reduceSub, Nat.reduceLeDiff, ↓reduceIte, decide_eq_true_eq, if_true, if_false, Bool.false_eq_true, Int.lt_irrefl, implies_true, true_and, and_true, eq_self, and_self, beq_self_eq_true, aw_plan (id := 13) plG4_80_13, plG4_80_13, aw_plan (id := 21) plG4_80_21, plG4_80_21, Bool.not_false, Bool.not_true, hz0]
              exact fz_er
            · have hz0 : ¬ (ln b : Int) = 0 := by omega
              rw [hmz hb0] at q6
              by_cases hbad : b < 0 ∨ b = 1
              · rw [if_pos hbad]
                by_cases hb : b < 0
                · have e : sgn b = true := decide_eq_true hb
                  rw [e] at q6
                  rw [Bool.not_true, Bool.false_and, ← e] at q6
                  simp (maxSteps := 1000000) (disch := first | exact sd | fail) only [go_sem, Nat.reduceAdd, Nat.reduceSub, Nat.reduceLeDiff, ↓reduceIte, decide_eq_true_eq, if_true, if_false, Bool.false_eq_true, Int.lt_irrefl, implies_true, true_and, and_true, eq_self, and_self, beq_self_eq_true, aw_plan (id := 13) plG4_80_13, plG4_80_13, aw_plan (id := 21) plG4_80_21, plG4_80_21, hl, h4, hc0, g1]
                  refine PC.step (q3) fun m1 j1 => ?_
                  try simp only [Heap.next_push, Heap.next_set, Heap.next_kill, next_bump, next_E0] at j1
                  simp (maxSteps := 1000000) (disch := first | exact sd | fail) only [go_sem, Nat.reduceAdd, Nat.reduceSub, Nat.reduceLeDiff, ↓reduceIte, decide_eq_true_eq, if_true, if_false, Bool.false_eq_true, Int.lt_irrefl, implies_true, true_and, and_true, eq_self, and_self, beq_self_eq_true, aw_plan (id := 13) plG4_80_13, plG4_80_13, aw_plan (id := 21) plG4_80_21, plG4_80_21, g2]
                  refine PC.step (q4) fun m2 j2 => ?_
                  try simp only [Heap.next_push, Heap.next_set, Heap.next_kill, next_bump, next_E0] at j2
                  simp (maxSteps := 1000000) (disch := first | exact sd | fail) only [go_sem, Nat.reduceAdd, Nat.reduceSub, Nat.reduceLeDiff, ↓reduceIte, decide_eq_true_eq, if_true, if_false, Bool.false_eq_true, Int.lt_irrefl, implies_true, true_and, and_true, eq_self, and_self, beq_self_eq_true, aw_plan (id := 13) plG4_80_13, plG4_80_13, aw_plan (id := 21) plG4_80_21, plG4_80_21, Bool.not_false, Bool.not_true, hz0]
                  refine PC.step (q6) fun m3 j3 => ?_
                  try simp only [Heap.next_push, Heap.next_set, Heap.next_kill, next_bump, next_E0] at j3
                  simp (maxSteps := 1000000) (disch := first | exact sd | fail) only [go_sem, Nat.reduceAdd, Nat.reduceSub, Nat.reduceLeDiff, ↓reduceIte, decide_eq_true_eq, if_true, if_false, Bool.false_eq_true, Int.lt_irrefl, implies_true, true_and, and_true, eq_self, and_self, beq_self_eq_true, aw_plan (id := 13) plG4_80_13, plG4_80_13, aw_plan (id := 21) plG4_80_21, plG4_80_21, Bool.not_false]
                  exact fz_er
                · have hb1 : b = 1 := by omega
                  have e : sgn b = false := decide_eq_false hb
                  rw [hgb hb1, decide_eq_true rfl, Bool.and_true] at q6
                  rw [decide_eq_true hb1] at q7
                  have e2 : (!sgn b) = true := by rw [e]; rfl
                  rw [e2] at q6
                  simp (maxSteps := 1000000) (disch := first | exact sd | fail) only [go_sem, Nat.reduceAdd, Nat.reduceSub, Nat.reduceLeDiff, ↓reduceIte, decide_eq_true_eq, if_true, if_false, Bool.false_eq_true, Int.lt_irrefl, implies_true, true_and, and_true, eq_self, and_self, beq_self_eq_true, aw_plan (id := 13) plG4_80_13, plG4_80_13, aw_plan (id := 21) plG4_80_21, plG4_80_21, hl, h4, hc0, g1]
                  refine PC.step (q3) fun m1 j1 => ?_
                  try simp only [Heap.next_push, Heap.next_set, Heap.next_kill, next_bump, next_E0] at j1
                  simp (maxSteps := 1000000) (disch := first | exact sd | fail) only [go_sem, Nat.reduceAdd, Nat.reduceSub, Nat.reduceLeDiff, ↓reduceIte, decide_eq_true_eq, if_true, if_false, Bool.false_eq_true, Int.lt_irrefl, implies_true, true_and, and_true, eq_self, and_self, beq_self_eq_true, aw_plan (id := 13) plG4_80_13, plG4_80_13, aw_plan (id := 21) plG4_80_21, plG4_80_21, g2]
                  refine PC.step (q4) fun m2 j2 => ?_
                  try simp only [Heap.next_push, Heap.next_set, Heap.next_kill, next_bump, next_E0] at j2
                  simp (maxSteps := 1000000) (disch := first | exact sd | fail) only [go_sem, Nat.reduceAdd, Nat.reduceSub, Nat.reduceLeDiff, ↓reduceIte, decide_eq_true_eq, if_true, if_false, Bool.false_eq_true, Int.lt_irrefl, implies_true, true_and, and_true, eq_self, and_self, beq_self_eq_true, aw_plan (id := 13) plG4_80_13, plG4_80_13, aw_plan (id := 21) plG4_80_21, plG4_80_21, Bool.not_false, Bool.not_true, hz0]
                  refine PC.step (q6) fun m3 j3 => ?_
                  try simp only [Heap.next_push, Heap.next_set, Heap.next_kill, next_bump, next_E0] at j3
                  simp (maxSteps := 1000000) (disch := first | exact sd | fail) only [go_sem, Nat.reduceAdd, Nat.reduceSub, Nat.reduceLeDiff, ↓reduceIte, decide_eq_true_eq, if_true, if_false, Bool.false_eq_true, Int.lt_irrefl, implies_true, true_and, and_true, eq_self, and_self, beq_self_eq_true, aw_plan (id := 13) plG4_80_13, plG4_80_13, aw_plan (id := 21) plG4_80_21, plG4_80_21, Bool.not_true]
                  refine PC.step (p1) fun m4 j4 => ?_
                  try simp only [Heap.next_push, Heap.next_set, Heap.next_kill, next_bump, next_E0] at j4
                  simp (maxSteps := 1000000) (disch := first | exact sd | fail) only [go_sem, Nat.reduceAdd, Nat.reduceSub, Nat.reduceLeDiff, ↓reduceIte, decide_eq_true_eq, if_true, if_false, Bool.false_eq_true, Int.lt_irrefl, implies_true, true_and, and_true, eq_self, and_self, beq_self_eq_true, aw_plan (id := 13) plG4_80_13, plG4_80_13, aw_plan (id := 21) plG4_80_21, plG4_80_21]
                  refine PC.step (q7) fun m5 j5 => ?_
                  try simp only [Heap.next_push, Heap.next_set, Heap.next_kill, next_bump, next_E0] at j5
                  simp (maxSteps := 1000000) (disch := first | exact sd | fail) only [go_sem, Nat.reduceAdd, Nat.reduceSub, Nat.reduceLeDiff, ↓reduceIte, decide_eq_true_eq, if_true, if_false, Bool.false_eq_true, Int.lt_irrefl, implies_true, true_and, and_true, eq_self, and_self, beq_self_eq_true, aw_plan (id := 13) plG4_80_13, plG4_80_13, aw_plan (id := 21) plG4_80_21, plG4_80_21]
                  exact fz_er
              · rw [if_neg hbad, if_neg hb0]
                have e : sgn b = false := decide_eq_false (by omega)
                have e2 : (!sgn b) = true := by rw [e]; rfl
                rw [e2, Bool.true_and] at q6
                rw [decide_eq_false (by omega)] at q7
                by_cases hgg : g = 1
                · rw [if_pos hgg]
                  rw [decide_eq_true hgg] at q6
                  simp (maxSteps := 1000000) (disch := first | exact sd | fail) only [go_sem, Nat.reduceAdd, Nat.reduceSub, Nat.reduceLeDiff, ↓reduceIte, decide_eq_true_eq, if_true, if_false, Bool.false_eq_true, Int.lt_irrefl, implies_true, true_and, and_true, eq_self, and_self, beq_self_eq_true, aw_plan (id := 13) plG4_80_13, plG4_80_13, aw_plan (id := 21) plG4_80_21, plG4_80_21, hl, h4, hc0, g1]
                  refine PC.step (q3) fun m1 j1 => ?_
                  try simp only [Heap.next_push, Heap.next_set, Heap.next_kill, next_bump, next_E0] at j1
                  simp (maxSteps := 1000000) (disch := first | exact sd | fail) only [go_sem, Nat.reduceAdd, Nat.reduceSub, Nat.reduceLeDiff, ↓reduceIte, decide_eq_true_eq, if_true, if_false, Bool.false_eq_true, Int.lt_irrefl, implies_true, true_and, and_true, eq_self, and_self, beq_self_eq_true, aw_plan (id := 13) plG4_80_13, plG4_80_13, aw_plan (id := 21) plG4_80_21, plG4_80_21, g2]
                  refine PC.step (q4) fun m2 j2 => ?_
                  try simp only [Heap.next_push, Heap.next_set, Heap.next_kill, next_bump, next_E0] at j2
                  simp (maxSteps := 1000000) (disch := first | exact sd | fail) only [go_sem, Nat.reduceAdd, Nat.reduceSub, Nat.reduceLeDiff, ↓reduceIte, decide_eq_true_eq, if_true, if_false, Bool.false_eq_true, Int.lt_irrefl, implies_true, true_and, and_true, eq_self, and_self, beq_self_eq_true, aw_plan (id := 13) plG4_80_13, plG4_80_13, aw_plan (id := 21) plG4_80_21, plG4_80_21, Bool.not_false, Bool.not_true, hz0]
                  refine PC.step (q6) fun m3 j3 => ?_
                  try simp only [Heap.next_push, Heap.next_set, Heap.next_kill, next_bump, next_E0] at j3
                  simp (maxSteps := 1000000) (disch := first | exact sd | fail) only [go_sem, Nat.reduceAdd, Nat.reduceSub, Nat.reduceLeDiff, ↓reduceIte, decide_eq_true_eq, if_true, if_false, Bool.false_eq_true, Int.lt_irrefl, implies_true, true_and, and_true, eq_self, and_self, beq_self_eq_true, aw_plan (id := 13) plG4_80_13, plG4_80_13, aw_plan (id := 21) plG4_80_21, plG4_80_21, Bool.not_true]
                  refine PC.step (p1) fun m4 j4 => ?_
                  try simp only [Heap.next_push, Heap.next_set, Heap.next_kill, next_bump, next_E0] at j4
                  simp (maxSteps := 1000000) (disch := first | exact sd | fail) only [go_sem, Nat.reduceAdd, Nat.reduceSub, Nat.reduceLeDiff, ↓reduceIte, decide_eq_true_eq, if_true, if_false, Bool.false_eq_true, Int.lt_irrefl, implies_true, true_and, and_true, eq_self, and_self, beq_self_eq_true, aw_plan (id := 13) plG4_80_13, plG4_80_13, aw_plan (id := 21) plG4_80_21, plG4_80_21]
                  refine PC.step (q7) fun m5 j5 => ?_
                  try simp only [Heap.next_push, Heap.next_set, Heap.next_kill, next_bump, next_E0] at j5
                  simp (maxSteps := 1000000) (disch := first | exact sd | fail) only [go_sem, Nat.reduceAdd, Nat.reduceSub, Nat.reduceLeDiff, ↓reduceIte, decide_eq_true_eq, if_true, if_false, Bool.false_eq_true, Int.lt_irrefl, implies_true, true_and, and_true, eq_self, and_self, beq_self_eq_true, aw_plan (id := 13) plG4_80_13, plG4_80_13, aw_plan (id := 21) plG4_80_21, plG4_80_21]
                  exact .rfl
                · rw [if_neg hgg]
                  rw [decide_eq_false hgg] at q6
                  simp (maxSteps := 1000000) (disch := first | exact sd | fail) only [go_sem, Nat.reduceAdd, Nat.reduceSub, Nat.reduceLeDiff, ↓reduceIte, decide_eq_true_eq, if_true, if_false, Bool.false_eq_true, Int.lt_irrefl, implies_true, true_and, and_true, eq_self, and_self, beq_self_eq_true, aw_plan (id := 13) plG4_80_13, plG4_80_13, aw_plan (id := 21) plG4_80_21, plG4_80_21, hl, h4, hc0, g1]
                  refine PC.step (q3) fun m1 j1 => ?_
                  try simp only [Heap.next_push, Heap.next_set, Heap.next_kill, next_bump, next_E0] at j1
                  simp (maxSteps := 1000000) (disch := first | exact sd | fail) only [go_sem, Nat.reduceAdd, Nat.reduceSub, Nat.reduceLeDiff, ↓reduceIte, decide_eq_true_eq, if_true, if_false, Bool.false_eq_true, Int.lt_irrefl, implies_true, true_and, and_true, eq_self, and_self, beq_self_eq_true, aw_plan (id := 13) plG4_80_13, plG4_80_13, aw_plan (id := 21) plG4_80_21, plG4_80_21, g2]
                  refine PC.step (q4) fun m2 j2 => ?_
                  try simp only [Heap.next_push, Heap.next_set, Heap.next_kill, next_bump, next_E0] at j2
                  simp (maxSteps := 1000000) (disch := first | exact sd | fail) only [go_sem, Nat.reduceAdd, Nat.reduceSub, Nat.reduceLeDiff, ↓reduceIte, decide_eq_true_eq, if_true, if_false, Bool.false_eq_true, Int.lt_irrefl, implies_true, true_and, and_true, eq_self, and_self, beq_self_eq_true, aw_plan (id := 13) plG4_80_13, plG4_80_13, aw_plan (id := 21) plG4_80_21, plG4_80_21, Bool.not_false, Bool.not_true, hz0]
                  refine PC.step (q6) fun m3 j3 => ?_
                  try simp only [Heap.next_push, Heap.next_set, Heap.next_kill, next_bump, next_E0] at j3
                  simp (maxSteps := 1000000) (disch := first | exact sd | fail) only [go_sem, Nat.reduceAdd, Nat.reduceSub, Nat.reduceLeDiff, ↓reduceIte, decide_eq_true_eq, if_true, if_false, Bool.false_eq_true, Int.lt_irrefl, implies_true, true_and, and_true, eq_self, and_self, beq_self_eq_true, aw_plan (id := 13) plG4_80_13, plG4_80_13, aw_plan (id := 21) plG4_80_21, plG4_80_21, Bool.not_false]
                  exact fz_er
      · skip
        cases hokA : okN (chs sa) with
        | false =>
          rw [hokA] at q3
          rw [if_neg (by decide)]
          simp (maxSteps := 1000000) (disch := first | exact sd | fail) only [go_sem, Nat.reduceAdd, Nat.reduceSub, Nat.reduceLeDiff, ↓reduceIte, decide_eq_true_eq, if_true, if_false, Bool.false_eq_true, Int.lt_irrefl, implies_true, true_and, and_true, eq_self, and_self, beq_self_eq_true, aw_plan (id := 13) plG4_80_13, plG4_80_13, aw_plan (id := 21) plG4_80_21, plG4_80_21, hl, h4, hc0, g1]
          refine PC.step (q3) fun m1 j1 => ?_
          try simp only [Heap.next_push, Heap.next_set, Heap.next_kill, next_bump, next_E0] at j1
          simp (maxSteps := 1000000) (disch := first | exact sd | fail) only [go_sem, Nat.reduceAdd, Nat.reduceSub, Nat.reduceLeDiff, ↓reduceIte, decide_eq_true_eq, if_true, if_false, Bool.false_eq_true, Int.lt_irrefl, implies_true, true_and, and_true, eq_self, and_self, beq_self_eq_true, aw_plan (id := 13) plG4_80_13, plG4_80_13, aw_plan (id := 21) plG4_80_21, plG4_80_21, g2]
          refine PC.step (q4) fun m2 j2 => ?_
          try simp only [Heap.next_push, Heap.next_set, Heap.next_kill, next_bump, next_E0] at j2
          simp (maxSteps := 1000000) (disch := first | exact sd | fail) only [go_sem, Nat.reduceAdd, Nat.reduceSub, Nat.reduceLeDiff, ↓reduceIte, decide_eq_true_eq, if_true, if_false, Bool.false_eq_true, Int.lt_irrefl, implies_true, true_and, and_true, eq_self, and_self, beq_self_eq_true, aw_plan (id := 13) plG4_80_13, plG4_80_13, aw_plan (id := 21) plG4_80_21, plG4_80_21, Bool.not_false]
          exact fz_er
        | true =>
          rw [hokA] at q3
          rw [if_pos rfl]
          cases hokB : okN (chs sb) with
          | false =>
            rw [hokB] at q4
            rw [if_neg (by decide)]
            simp (maxSteps := 1000000) (disch := first | exact sd | fail) only [go_sem, Nat.reduceAdd, Nat.reduceSub, Nat.reduceLeDiff, ↓reduceIte, decide_eq_true_eq, if_true, if_false, Bool.false_eq_true, Int.lt_irrefl, implies_true, true_and, and_true, eq_self, and_self, beq_self_eq_true, aw_plan (id := 13) plG4_80_13, plG4_80_13, aw_plan (id := 21) plG4_80_21, plG4_80_21, hl, h4, hc0, g1]
            refine PC.step (q3) fun m1 j1 => ?_
            try simp only [Heap.next_push, Heap.next_set, Heap.next_kill, next_bump, next_E0] at j1
            simp (maxSteps := 1000000) (disch := first | exact sd | fail) only [go_sem, Nat.reduceAdd, Nat.reduceSub, Nat.reduceLeDiff, ↓reduceIte, decide_eq_true_eq, if_true, if_false, Bool.false_eq_true, Int.lt_irrefl, implies_true, true_and, and_true, eq_self, and_self, beq_self_eq_true, aw_plan (id := 13) plG4_80_13, plG4_80_13, aw_plan (id := 21) plG4_80_21, plG4_80_21, g2]
            refine PC.step (q4) fun m2 j2 => ?_
            try simp only [Heap.next_push, Heap.next_set, Heap.next_kill, next_bump, next_E0] at j2
            simp (maxSteps := 1000000) (disch := first | exact sd | fail) only [go_sem, Nat.reduceAdd, Nat.reduceSub, Nat.reduceLeDiff, ↓reduceIte, decide_eq_true_eq, if_true, if_false, Bool.false_eq_true, Int.lt_irrefl, implies_true, true_and, and_true, eq_self, and_self, beq_self_eq_true, aw_plan (id := 13) plG4_80_13, plG4_80_13, aw_plan (id := 21) plG4_80_21, plG4_80_21, Bool.not_false, Bool.not_true]
            exact fz_er
          | true =>
            rw [hokB] at q4
            rw [if_pos rfl]
            by_cases hb0 : b = 0
            · have hz0 : (ln b : Int) = 0 := by omega
              rw [if_neg (by omega), if_pos hb0]
              simp (maxSteps := 1000000) (disch := first | exact sd | fail) only [go_sem, Nat.reduceAdd, Nat.reduceSub, Nat.reduceLeDiff, ↓reduceIte, decide_eq_true_eq, if_true, if_false, Bool.false_eq_true, Int.lt_irrefl, implies_true, true_and, and_true, eq_self, and_self, beq_self_eq_true, aw_plan (id := 13) plG4_80_13, plG4_80_13, aw_plan (id := 21) plG4_80_21, plG4_80_21, hl, h4, hc0, g1]
              refine PC.step (q3) fun m1 j1 => ?_
              try simp only [Heap.next_push, Heap.next_set, Heap.next_kill, next_bump, next_E0] at j1
              simp (maxSteps := 1000000) (disch := first | exact sd | fail) only [go_sem, Nat.reduceAdd, Nat.reduceSub, Nat.reduceLeDiff, ↓reduceIte, decide_eq_true_eq, if_true, if_false, Bool.false_eq_true, Int.lt_irrefl, implies_true, true_and, and_true, eq_self, and_self, beq_self_eq_true, aw_plan (id := 13) plG4_80_13, plG4_80_13, aw_plan (id := 21) plG4_80_21, plG4_80_21, g2]
              refine PC.step (q4) fun m2 j2 => ?_
              try simp only [Heap.next_push, Heap.next_set, Heap.next_kill, next_bump, next_E0] at j2
              simp (maxSteps := 1000000) (disch := first | exact sd | fail) only [go_sem, Nat.reduceAdd, Nat.reduceSub, Nat.reduceLeDiff, ↓reduceIte, decide_eq_true_eq, if_true, if_false, Bool.false_eq_true, Int.lt_irrefl, implies_true, true_and, and_true, eq_self, and_self, beq_self_eq_true, aw_plan (id := 13) plG4_80_13, plG4_80_13, aw_plan (id := 21) plG4_80_21, plG4_80_21, Bool.not_false, Bool.not_true, hz0]
              exact fz_er
            · have hz0 : ¬ (ln b : Int) = 0 := by omega
              rw [hmz hb0] at q6
              by_cases hbad : b < 0 ∨ b = 1
              · rw [if_pos hbad]
                by_cases hb : b < 0
                · have e : sgn b = true := decide_eq_true hb
                  rw [e] at q6
                  rw [Bool.not_true, Bool.false_and, ← e] at q6
                  simp (maxSteps := 1000000) (disch := first | exact sd | fail) only [go_sem, Nat.reduceAdd, Nat.reduceSub, Nat.reduceLeDiff, ↓reduceIte, decide_eq_true_eq, if_true, if_false, Bool.false_eq_true, Int.lt_irrefl, implies_true, true_and, and_true, eq_self, and_self, beq_self_eq_true, aw_plan (id := 13) plG4_80_13, plG4_80_13, aw_plan (id := 21) plG4_80_21, plG4_80_21, hl, h4, hc0, g1]
                  refine PC.step (q3) fun m1 j1 => ?_
                  try simp only [Heap.next_push, Heap.next_set, Heap.next_kill, next_bump, next_E0] at j1
                  simp (maxSteps := 1000000) (disch := first | exact sd | fail) only [go_sem, Nat.reduceAdd, Nat.reduceSub, Nat.reduceLeDiff, ↓reduceIte, decide_eq_true_eq, if_true, if_false, Bool.false_eq_true, Int.lt_irrefl, implies_true, true_and, and_true, eq_self, and_self, beq_self_eq_true, aw_plan (id := 13) plG4_80_13, plG4_80_13, aw_plan (id := 21) plG4_80_21, plG4_80_21, g2]
                  refine PC.step (q4) fun m2 j2 => ?_
                  try simp only [Heap.next_push, Heap.next_set, Heap.next_kill, next_bump, next_E0] at j2
                  simp (maxSteps := 1000000) (disch := first | exact sd | fail) only [go_sem, Nat.reduceAdd, Nat.reduceSub, Nat.reduceLeDiff, ↓reduceIte, decide_eq_true_eq, if_true, if_false, Bool.false_eq_true, Int.lt_irrefl, implies_true, true_and, and_true, eq_self, and_self, beq_self_eq_true, aw_plan (id := 13) plG4_80_13, plG4_80_13, aw_plan (id := 21) plG4_80_21, plG4_80_21, Bool.not_false, Bool.not_true, hz0]
                  refine PC.step (q6) fun m3 j3 => ?_
                  try simp only [Heap.next_push, Heap.next_set, Heap.next_kill, next_bump, next_E0] at j3
                  simp (maxSteps := 1000000) (disch := first | exact sd | fail) only [go_sem, Nat.reduceAdd, Nat.reduceSub, Nat.reduceLeDiff, ↓reduceIte, decide_eq_true_eq, if_true, if_false, Bool.false_eq_true, Int.lt_irrefl, implies_true, true_and, and_true, eq_self, and_self, beq_self_eq_true, aw_plan (id := 13) plG4_80_13, plG4_80_13, aw_plan (id := 21) plG4_80_21, plG4_80_21, Bool.not_false]
                  exact fz_er
                · have hb1 : b = 1 := by omega
                  have e : sgn b = false := decide_eq_false hb
                  rw [hgb hb1, decide_eq_true rfl, Bool.and_true] at q6
                  rw [decide_eq_true hb1] at q7
                  have e2 : (!sgn b) = true := by rw [e]; rfl
                  rw [e2] at q6
                  simp (maxSteps := 1000000) (disch := first | exact sd | fail) only [go_sem, Nat.reduceAdd, Nat.reduceSub, Nat.reduceLeDiff, ↓reduceIte, decide_eq_true_eq, if_true, if_false, Bool.false_eq_true, Int.lt_irrefl, implies_true, true_and, and_true, eq_self, and_self, beq_self_eq_true, aw_plan (id := 13) plG4_80_13, plG4_80_13, aw_plan (id := 21) plG4_80_21, plG4_80_21, hl, h4, hc0, g1]
                  refine PC.step (q3) fun m1 j1 => ?_
                  try simp only [Heap.next_push, Heap.next_set, Heap.next_kill, next_bump, next_E0] at j1
                  simp (maxSteps := 1000000) (disch := first | exact sd | fail) only [go_sem, Nat.reduceAdd, Nat.reduceSub, Nat.reduceLeDiff, ↓reduceIte, decide_eq_true_eq, if_true, if_false, Bool.false_eq_true, Int.lt_irrefl, implies_true, true_and, and_true, eq_self, and_self, beq_self_eq_true, aw_plan (id := 13) plG4_80_13, plG4_80_13, aw_plan (id := 21) plG4_80_21, plG4_80_21, g2]
                  refine PC.step (q4) fun m2 j2 => ?_
                  try simp only [Heap.next_push, Heap.next_set, Heap.next_kill, next_bump, next_E0] at j2
                  simp (maxSteps := 1000000) (disch := first | exact sd | fail) only [go_sem, Nat.reduceAdd, Nat.reduceSub, Nat.reduceLeDiff, ↓reduceIte, decide_eq_true_eq, if_true, if_false, Bool.false_eq_true, Int.lt_irrefl, implies_true, true_and, and_true, eq_self, and_self, beq_self_eq_true, aw_plan (id := 13) plG4_80_13, plG4_80_13, aw_plan (id := 21) plG4_80_21, plG4_80_21, Bool.not_false, Bool.not_true, hz0]
                  refine PC.step (q6) fun m3 j3 => ?_
                  try simp only [Heap.next_push, Heap.next_set, Heap.next_kill, next_bump, next_E0] at j3
                  simp (maxSteps := 1000000) (disch := first | exact sd | fail) only [go_sem, Nat.reduceAdd, Nat.reduceSub, Nat.reduceLeDiff, ↓reduceIte, decide_eq_true_eq, if_true, if_false, Bool.false_eq_true, Int.lt_irrefl, implies_true, true_and, and_true, eq_self, and_self, beq_self_eq_true, aw_plan (id := 13) plG4_80_13, plG4_80_13, aw_plan (id := 21) plG4_80_21, plG4_80_21, Bool.not_true]
                  refine PC.step (p1) fun m4 j4 => ?_
                  try simp only [Heap.next_push, Heap.next_set, Heap.next_kill, next_bump, next_E0] at j4
                  simp (maxSteps := 1000000) (disch := first | exact sd | fail) only [go_sem, Nat.reduceAdd, Nat.reduceSub, Nat.reduceLeDiff, ↓reduceIte, decide_eq_true_eq, if_true, if_false, Bool.false_eq_true, Int.lt_irrefl, implies_true, true_and, and_true, eq_self, and_self, beq_self_eq_true, aw_plan (id := 13) plG4_80_13, plG4_80_13, aw_plan (id := 21) plG4_80_21, plG4_80_21]
                  refine PC.step (q7) fun m5 j5 => ?_
                  try simp only [Heap.next_push, Heap.next_set, Heap.next_kill, next_bump, next_E0] at j5
                  simp (maxSteps := 1000000) (disch := first | exact sd | fail) only [go_sem, Nat.reduceAdd, Nat.reduceSub, Nat.reduceLeDiff, ↓reduceIte, decide_eq_true_eq, if_true, if_false, Bool.false_eq_true, Int.lt_irrefl, implies_true, true_and, and_true, eq_self, and_self, beq_self_eq_true, aw_plan (id := 13) plG4_80_13, plG4_80_13, aw_plan (id := 21) plG4_80_21, plG4_80_21]
                  exact fz_er
              · rw [if_neg hbad, if_neg hb0]
                have e : sgn b = false := decide_eq_false (by omega)
                have e2 : (!sgn b) = true := by rw [e]; rfl
                rw [e2, Bool.true_and] at q6
                rw [decide_eq_false (by omega)] at q7
                by_cases hgg : g = 1
                · rw [if_pos hgg]
                  rw [decide_eq_true hgg] at q6
                  simp (maxSteps := 1000000) (disch := first | exact sd | fail) only [go_sem, Nat.reduceAdd, Nat.reduceSub, Nat.reduceLeDiff, ↓reduceIte, decide_eq_true_eq, if_true, if_false, Bool.false_eq_true, Int.lt_irrefl, implies_true, true_and, and_true, eq_self, and_self, beq_self_eq_true, aw_plan (id := 13) plG4_80_13, plG4_80_13, aw_plan (id := 21) plG4_80_21, plG4_80_21, hl, h4, hc0, g1]
                  refine PC.step (q3) fun m1 j1 => ?_
                  try simp only [Heap.next_push, Heap.next_set, Heap.next_kill, next_bump, next_E0] at j1
                  simp (maxSteps := 1000000) (disch := first | exact sd | fail) only [go_sem, Nat.reduceAdd, Nat.reduceSub, Nat.reduceLeDiff, ↓reduceIte, decide_eq_true_eq, if_true, if_false, Bool.false_eq_true, Int.lt_irrefl, implies_true, true_and, and_true, eq_self, and_self, beq_self_eq_true, aw_plan (id := 13) plG4_80_13, plG4_80_13, aw_plan (id := 21) plG4_80_21, plG4_80_21, g2]
                  refine PC.step (q4) fun m2 j2 => ?_
                  try simp only [Heap.next_push, Heap.next_set, Heap.next_kill, next_bump, next_E0] at j2
                  simp (maxSteps := 1000000) (disch := first | exact sd | fail) only [go_sem, Nat.reduceAdd, Nat.reduceSub, Nat.reduceLeDiff, ↓reduceIte, decide_eq_true_eq, if_true, if_false, Bool.false_eq_true, Int.lt_irrefl, implies_true, true_and, and_true, eq_self, and_self, beq_self_eq_true, aw_plan (id := 13) plG4_80_13, plG4_80_13, aw_plan (id := 21) plG4_80_21, plG4_80_21, Bool.not_false, Bool.not_true, hz0]
                  refine PC.step (q6) fun m3 j3 => ?_
                  try simp only [Heap.next_push, Heap.next_set, Heap.next_kill, next_bump, next_E0] at j3
                  simp (maxSteps := 1000000) (disch := first | exact sd | fail) only [go_sem, Nat.reduceAdd, Nat.reduceSub, Nat.reduceLeDiff, ↓reduceIte, decide_eq_true_eq, if_true, if_false, Bool.false_eq_true, Int.lt_irrefl, implies_true, true_and, and_true, eq_self, and_self, beq_self_eq_true, aw_plan (id := 13) plG4_80_13, plG4_80_13, aw_plan (id := 21) plG4_80_21, plG4_80_21, Bool.not_true]
                  refine PC.step (p1) fun m4 j4 => ?_
                  try simp only [Heap.next_push, Heap.next_set, Heap.next_kill, next_bump, next_E0] at j4
                  simp (maxSteps := 1000000) (disch := first | exact sd | fail) only [go_sem, Nat.reduceAdd, Nat.reduceSub, Nat.reduceLeDiff, ↓reduceIte, decide_eq_true_eq, if_true, if_false, Bool.false_eq_true, Int.lt_irrefl, implies_true, true_and, and_true, eq_self, and_self, beq_self_eq_true, aw_plan (id := 13) plG4_80_13, plG4_80_13, aw_plan (id := 21) plG4_80_21, plG4_80_21]
                  refine PC.step (q7) fun m5 j5 => ?_
                  try simp only [Heap.next_push, Heap.next_set, Heap.next_kill, next_bump, next_E0] at j5
                  simp (maxSteps := 1000000) (disch := first | exact sd | fail) only [go_sem, Nat.reduceAdd, Nat.reduceSub, Nat.reduceLeDiff, ↓reduceIte, decide_eq_true_eq, if_true, if_false, Bool.false_eq_true, Int.lt_irrefl, implies_true, true_and, and_true, eq_self, and_self, beq_self_eq_true, aw_plan (id := 13) plG4_80_13, plG4_80_13, aw_plan (id := 21) plG4_80_21, plG4_80_21]
                  exact .rfl
                · rw [if_neg hgg]
                  rw [decide_eq_false hgg] at q6
                  simp (maxSteps := 1000000) (disch := first | exact sd | fail) only [go_sem, Nat.reduceAdd, Nat.reduceSub, Nat.reduceLeDiff, ↓reduceIte, decide_eq_true_eq, if_true, if_false, Bool.false_eq_true, Int.lt_irrefl, implies_true, true_and, and_true, eq_self, and_self, beq_self_eq_true, aw_plan (id := 13) plG4_80_13, plG4_80_13, aw_plan (id := 21) plG4_80_21, plG4_80_21, hl, h4, hc0, g1]
                  refine PC.step (q3) fun m1 j1 => ?_
                  try simp only [Heap.next_push, Heap.next_set, Heap.next_kill, next_bump, next_E0] at j1
                  simp (maxSteps := 1000000) (disch := first | exact sd | fail) only [go_sem, Nat.reduceAdd, Nat.reduceSub, Nat.reduceLeDiff, ↓reduceIte, decide_eq_true_eq, if_true, if_false, Bool.false_eq_true, Int.lt_irrefl, implies_true, true_and, and_true, eq_self, and_self, beq_self_eq_true, aw_plan (id := 13) plG4_80_13, plG4_80_13, aw_plan (id := 21) plG4_80_21, plG4_80_21, g2]
                  refine PC.step (q4) fun m2 j2 => ?_
                  try simp only [Heap.next_push, Heap.next_set, Heap.next_kill, next_bump, next_E0] at j2
                  simp (maxSteps := 1000000) (disch := first | exact sd | fail) only [go_sem, Nat.reduceAdd, Nat.reduceSub, Nat.reduceLeDiff, ↓reduceIte, decide_eq_true_eq, if_true, if_false, Bool.false_eq_true, Int.lt_irrefl, implies_true, true_and, and_true, eq_self, and_self, beq_self_eq_true, aw_plan (id := 13) plG4_80_13, plG4_80_13, aw_plan (id := 21) plG4_80_21, plG4_80_21, Bool.not_false, Bool.not_true, hz0]
                  refine PC.step (q6) fun m3 j3 => ?_
                  try simp only [Heap.next_push, Heap.next_set, Heap.next_kill, next_bump, next_E0] at j3
                  simp (maxSteps := 1000000) (disch := first | exact sd | fail) only [go_sem, Nat.reduceAdd, Nat.reduceSub, Nat.reduceLeDiff, ↓reduceIte, decide_eq_true_eq, if_true, if_false, Bool.false_eq_true, Int.lt_irrefl, implies_true, true_and, and_true, eq_self, and_self, beq_self_eq_true, aw_plan (id := 13) plG4_80_13, plG4_80_13, aw_plan (id := 21) plG4_80_21, plG4_80_21, Bool.not_false]
                  exact fz_er
end Go.Abs
