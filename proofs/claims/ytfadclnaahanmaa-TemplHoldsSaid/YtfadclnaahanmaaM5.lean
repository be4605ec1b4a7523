/- Whether a template is right, twice; the example. -/
import Derived.Test.YtfadclnaahanmaaMa
set_option linter.unusedVariables false
set_option linter.unusedSimpArgs false
namespace Go.Abs
open Go Go.Proofs
set_option maxRecDepth 100000
set_option maxHeartbeats 4000000
def plM5_130_2 : Plan := ⟨[0, 1, 2, 3, 4, 5, 6, 7, 8, 9, 10, 11, 12, 13, 14, 15, 16, 17, 18, 19, 20, 21, 22, 23, 24, 25, 26], [(27, [26, 24, 22], []), (28, [], [29, 30, 31, 32, 33, 34, 35, 36]), (37, [36, 34, 32], []), (38, [], [39, 40])]⟩
def mayR (a : RQ) : Bool := mayQ a.p.neg a.p.l a.q.neg a.q.l
def okRow (n : Int) (r : List RQ) : Bool := decide ((r.length : Int) = n) && r.all mayR
def rightT (rows : List (List RQ)) (n : Int) : Bool := decide (0 ≤ n ∧ n ≤ 6 ∧ rows.length ≤ 40) && rows.all (okRow n)
theorem rightT_false {rows : List (List RQ)} {n : Int} {s : Nat} (hs : s < rows.length) (h : okRow n (rwi rows s) = false) : rightT rows n = false := by
  unfold rightT
  rw [Bool.and_eq_false_iff]
  right
  rw [List.all_eq_false]
  refine ⟨rwi rows s, ?_, by simp [h]⟩
  unfold rwi
  rw [getD_eq hs]
  exact List.getElem_mem hs
theorem okRow_len {n : Int} {r : List RQ} (h : ¬ (r.length : Int) = n) : okRow n r = false := by simp [okRow, h]
theorem okRow_may {n : Int} {r : List RQ} {k : Nat} (hk : k < r.length) (h : mayR (r.getD k eQ.d) = false) : okRow n r = false := by
  unfold okRow
  rw [Bool.and_eq_false_iff]
  right
  rw [List.all_eq_false]
  refine ⟨r.getD k eQ.d, ?_, by rw [h]; exact Bool.false_ne_true⟩
  rw [getD_eq hk]
  exact List.getElem_mem hk
theorem okRow_true {n : Int} {r : List RQ} (hl : (r.length : Int) = n) (h : ∀ k, k < r.length → mayR (r.getD k eQ.d) = true) : okRow n r = true := by
  unfold okRow
  rw [Bool.and_eq_true, decide_eq_true_eq, List.all_eq_true]
  refine ⟨hl, fun x hx => ?_⟩
  obtain ⟨k, hk, rfl⟩ := List.getElem_of_mem hx
  have := h k hk
  rwa [getD_eq hk] at this
theorem rightT_true {rows : List (List RQ)} {n : Int} (h1 : 0 ≤ n ∧ n ≤ 6 ∧ rows.length ≤ 40) (h : ∀ s, s < rows.length → okRow n (rwi rows s) = true) : rightT rows n = true := by
  unfold rightT
  rw [Bool.and_eq_true, decide_eq_true_eq, List.all_eq_true]
  refine ⟨h1, fun r hr => ?_⟩
  obtain ⟨s, hs, rfl⟩ := List.getElem_of_mem hr
  have := h s hs
  unfold rwi at this
  rwa [getD_eq hs] at this
theorem rightT_out {rows : List (List RQ)} {n : Int} (h : ¬ (0 ≤ n ∧ n ≤ 6 ∧ rows.length ≤ 40)) : rightT rows n = false := by simp [rightT, h]
theorem p131 {rows : List (List RQ)} {n : Int} (hr : ∀ j, Rw (rwi rows j)) (hl : rows.length ≤ 9223372036854775807) : PC Try.prog 27 [Tv rows, .int .i64 n] (.bool (rightT rows n)) := by
  refine PC.of (.cons pu_T (.cons (.ground rfl) .nil)) (.ground rfl) fun N hN => ?_
  unfold Tv
  refine ACalls.of_code T.hm (n := 41) Try.func27 rfl rfl rfl rfl ?_; simp only [List.replicate_succ, List.replicate_zero, List.cons_append, List.nil_append]
  by_cases h1 : n < 0
  · simp (maxSteps := 1000000) (disch := first | exact sd | fail) only [go_sem, Nat.reduceAdd, Nat.reduceSub, Nat.reduceLeDiff, ↓reduceIte, decide_eq_true_eq, if_true, if_false, Bool.false_eq_true, Int.lt_irrefl, implies_true, true_and, and_true, eq_self, and_self, beq_self_eq_true, h1]
    rw [rightT_out (by omega)]
    exact .rfl
  by_cases h2 : 6 < n
  · simp (maxSteps := 1000000) (disch := first | exact sd | fail) only [go_sem, Nat.reduceAdd, Nat.reduceSub, Nat.reduceLeDiff, ↓reduceIte, decide_eq_true_eq, if_true, if_false, Bool.false_eq_true, Int.lt_irrefl, implies_true, true_and, and_true, eq_self, and_self, beq_self_eq_true, h1, h2]
    rw [rightT_out (by omega)]
    exact .rfl
  by_cases h3 : (40 : Int) < rows.length
  · simp (maxSteps := 1000000) (disch := first | exact sd | fail) only [go_sem, Nat.reduceAdd, Nat.reduceSub, Nat.reduceLeDiff, ↓reduceIte, decide_eq_true_eq, if_true, if_false, Bool.false_eq_true, Int.lt_irrefl, implies_true, true_and, and_true, eq_self, and_self, beq_self_eq_true, h1, h2, h3]
    rw [rightT_out (by omega)]
    exact .rfl
  simp (maxSteps := 1000000) (disch := first | exact sd | fail) only [go_sem, Nat.reduceAdd, Nat.reduceSub, Nat.reduceLeDiff, ↓reduceIte, decide_eq_true_eq, if_true, if_false, Bool.false_eq_true, Int.lt_irrefl, implies_true, true_and, and_true, eq_self, and_self, beq_self_eq_true, h1, h2, h3]
  have ho : 0 ≤ n ∧ n ≤ 6 ∧ rows.length ≤ 40 := by omega
  refine aw_loopJ (σ := Nat) (fun s J => [J 0, .int .i64 n, .pointer (some ⟨N, 0, none⟩), J 3, .bool false, J 5, J 6, J 7, J 8, J 9, J 10, J 11, J 12, J 13, J 14, J 15, J 16, J 17, J 18, J 19, J 20, J 21, Vv eR rows, .int .i64 rows.length, .int .i64 s, J 25, J 26, J 27, J 28, J 29, J 30, J 31, J 32, J 33, J 34, J 35, J 36, J 37, J 38, J 39, J 40, J 41, J 42]) (fun m s H1 => m = rows.length - s ∧ s ≤ rows.length ∧ ∀ j, j < s → okRow n (rwi rows j) = true) rows.length 0 rfl ⟨rfl, Nat.zero_le _, fun j hj => by omega⟩ ?_
  rintro m s J H1 ⟨rfl, hs, hall⟩
  by_cases h4 : (s : Int) < rows.length
  · have hs' : s < rows.length := by omega
    by_cases h5 : ((rwi rows s).length : Int) = n
    rotate_left
    · simp (maxSteps := 1000000) (disch := first | exact sd | fail) only [go_sem, Nat.reduceAdd, Nat.reduceSub, Nat.reduceLeDiff, ↓reduceIte, decide_eq_true_eq, if_true, if_false, Bool.false_eq_true, Int.lt_irrefl, implies_true, true_and, and_true, eq_self, and_self, beq_self_eq_true, h4, Int.toNat_natCast, show rows.getD s [] = rwi rows s from rfl, h5, ne_eq, not_false_eq_true]
      rw [rightT_false hs' (okRow_len h5)]
      exact .rfl
    · have hw := hr s
      generalize hR : rwi rows s = r at *
      simp (maxSteps := 1000000) (disch := first | exact sd | fail) only [go_sem, Nat.reduceAdd, Nat.reduceSub, Nat.reduceLeDiff, ↓reduceIte, decide_eq_true_eq, if_true, if_false, Bool.false_eq_true, Int.lt_irrefl, implies_true, true_and, and_true, eq_self, and_self, beq_self_eq_true, h4, Int.toNat_natCast, show rows.getD s [] = rwi rows s from rfl, hR, h5, ne_eq, not_true_eq_false]
      refine aw_loopJ (σ := Nat) (fun k J => [J 0, .int .i64 n, .pointer (some ⟨N, 0, none⟩), J 3, .bool false, J 5, Vv eQ r, J 7, J 8, J 9, J 10, J 11, J 12, J 13, J 14, J 15, J 16, J 17, J 18, J 19, J 20, J 21, Vv eR rows, .int .i64 rows.length, .int .i64 s, J 25, J 26, J 27, J 28, J 29, J 30, J 31, Vv eQ r, .int .i64 n, .int .i64 k, J 35, J 36, J 37, J 38, J 39, J 40, J 41, J 42]) (fun m k H1 => m = r.length - k ∧ k ≤ r.length ∧ ∀ j, j < k → mayR (r.getD j eQ.d) = true) r.length 0 rfl ⟨rfl, Nat.zero_le _, fun j hj => by omega⟩ ?_
      rintro m k J H2 ⟨rfl, hk, hm⟩
      by_cases h6 : (k : Int) < n
      · have h7 : (k : Int) < r.length := by omega
        have hz := hw.getD k
        have q := p73 (pn := (r.getD k eQ.d).p.neg) (qn := (r.getD k eQ.d).q.neg) hz.lp.lb hz.lq'.lb (by have := hz.2.2.1; omega) (by have := hz.2.2.2; omega)
        change PC Try.prog 68 [R4 _ _ _ _] (.bool (mayR (r.getD k eQ.d))) at q
        cases hb : mayR (r.getD k eQ.d) with
        | false =>
          rw [hb] at q
          simp (maxSteps := 1000000) (disch := first | exact sd | fail) only [go_sem, Nat.reduceAdd, Nat.reduceSub, Nat.reduceLeDiff, ↓reduceIte, decide_eq_true_eq, if_true, if_false, Bool.false_eq_true, Int.lt_irrefl, implies_true, true_and, and_true, eq_self, and_self, beq_self_eq_true, h6, h7, Int.toNat_natCast]
          refine PC.step (q) fun m1 j1 => ?_
          try simp only [Heap.next_push, Heap.next_set, Heap.next_kill, next_bump, next_E0] at j1
          simp (maxSteps := 1000000) (disch := first | exact sd | fail) only [go_sem, Nat.reduceAdd, Nat.reduceSub, Nat.reduceLeDiff, ↓reduceIte, decide_eq_true_eq, if_true, if_false, Bool.false_eq_true, Int.lt_irrefl, implies_true, true_and, and_true, eq_self, and_self, beq_self_eq_true]
          rw [rightT_false hs' (by rw [hR]; exact okRow_may (by omega) hb)]
          exact .rfl
        | true =>
          rw [hb] at q
          simp (maxSteps := 1000000) (disch := first | exact sd | fail) only [go_sem, Nat.reduceAdd, Nat.reduceSub, Nat.reduceLeDiff, ↓reduceIte, decide_eq_true_eq, if_true, if_false, Bool.false_eq_true, Int.lt_irrefl, implies_true, true_and, and_true, eq_self, and_self, beq_self_eq_true, h6, h7, Int.toNat_natCast]
          refine PC.step (q) fun m1 j1 => ?_
          try simp only [Heap.next_push, Heap.next_set, Heap.next_kill, next_bump, next_E0] at j1
          simp (maxSteps := 1000000) (disch := first | exact sd | fail) only [go_sem, Nat.reduceAdd, Nat.reduceSub, Nat.reduceLeDiff, ↓reduceIte, decide_eq_true_eq, if_true, if_false, Bool.false_eq_true, Int.lt_irrefl, implies_true, true_and, and_true, eq_self, and_self, beq_self_eq_true]
          refine IJ_intro (k := r.length - (k + 1)) (by omega) (k + 1) rfl ⟨rfl, by omega, fun j hj => ?_⟩
          rcases Nat.lt_or_ge j k with h8 | h8
          · exact hm j h8
          · have : j = k := by omega
            subst this; exact hb
      · simp (maxSteps := 1000000) (disch := first | exact sd | fail) only [go_sem, Nat.reduceAdd, Nat.reduceSub, Nat.reduceLeDiff, ↓reduceIte, decide_eq_true_eq, if_true, if_false, Bool.false_eq_true, Int.lt_irrefl, implies_true, true_and, and_true, eq_self, and_self, beq_self_eq_true, h6]
        refine IJ_intro (k := rows.length - (s + 1)) (by omega) (s + 1) rfl ⟨rfl, by omega, fun j hj => ?_⟩
        rcases Nat.lt_or_ge j s with h8 | h8
        · exact hall j h8
        · have : j = s := by omega
          subst this
          rw [hR]
          exact okRow_true h5 fun i hi => hm i (by omega)
  · simp (maxSteps := 1000000) (disch := first | exact sd | fail) only [go_sem, Nat.reduceAdd, Nat.reduceSub, Nat.reduceLeDiff, ↓reduceIte, decide_eq_true_eq, if_true, if_false, Bool.false_eq_true, Int.lt_irrefl, implies_true, true_and, and_true, eq_self, and_self, beq_self_eq_true, h4]
    rw [rightT_true ho fun j hj => hall j (by omega)]
    exact .rfl
theorem p130 : PC Try.prog 20 [] (.bool true) := by
  refine PC.of .nil (.ground rfl) fun N hN => ?_
  have h0 := p124 (n := 1)
  have e : (sgl (slt 1)).take 40 = [r1 1 0 1, r1 1 0 (-1)] := rfl
  rw [e] at h0
  have e1 : r1 1 0 1 = [rq ((1 : Int) : Rat)] := rfl
  have e2 : r1 1 0 (-1) = [rq ((-1 : Int) : Rat)] := rfl
  rw [e1, e2] at h0
  unfold Tv at h0
  refine ACalls.of_code T.hm (n := 43) Try.func20 rfl rfl rfl rfl ?_; simp only [List.replicate_succ, List.replicate_zero, List.cons_append, List.nil_append]
  simp (maxSteps := 1000000) (disch := first | exact sd | fail) only [go_sem, Nat.reduceAdd, Nat.reduceSub, Nat.reduceLeDiff, ↓reduceIte, decide_eq_true_eq, if_true, if_false, Bool.false_eq_true, Int.lt_irrefl, implies_true, true_and, and_true, eq_self, and_self, beq_self_eq_true, aw_plan (id := 2) plM5_130_2, plM5_130_2]
  refine PC.step (h0) fun m1 j1 => ?_
  try simp only [Heap.next_push, Heap.next_set, Heap.next_kill, next_bump, next_E0] at j1
  have l2 : ((2 : Nat) : Int) = 2 := rfl
  have l1 : ((1 : Nat) : Int) = 1 := rfl
  have n0 : (0 : Int) < 2 := by decide
  have n1 : (1 : Int) < 2 := by decide
  have n2 : (0 : Int) < 1 := by decide
  have d0 {a b : List RQ} : ([a, b] : List (List RQ)).getD (Int.toNat 0) [] = a := rfl
  have d1 {a b : List RQ} : ([a, b] : List (List RQ)).getD (Int.toNat 1) [] = b := rfl
  have d2 {a d : RQ} : ([a] : List RQ).getD (Int.toNat 0) d = a := rfl
  simp (maxSteps := 1000000) (disch := first | exact sd | fail) only [go_sem, Nat.reduceAdd, Nat.reduceSub, Nat.reduceLeDiff, ↓reduceIte, decide_eq_true_eq, if_true, if_false, Bool.false_eq_true, Int.lt_irrefl, implies_true, true_and, and_true, eq_self, and_self, beq_self_eq_true, aw_plan (id := 2) plM5_130_2, plM5_130_2, l2, l1, n0, n1, n2, d0, d1, d2]
  refine PC.step (p77 (x := 1) (by omega)) fun m2 j2 => ?_
  try simp only [Heap.next_push, Heap.next_set, Heap.next_kill, next_bump, next_E0] at j2
  simp (maxSteps := 1000000) (disch := first | exact sd | fail) only [go_sem, Nat.reduceAdd, Nat.reduceSub, Nat.reduceLeDiff, ↓reduceIte, decide_eq_true_eq, if_true, if_false, Bool.false_eq_true, Int.lt_irrefl, implies_true, true_and, and_true, eq_self, and_self, beq_self_eq_true, aw_plan (id := 2) plM5_130_2, plM5_130_2, l2, l1, n0, n1, n2, d0, d1, d2]
  refine PC.step (p75t (x := ((1 : Int) : Rat)) (Nat.le_trans (lq_int _) (by have := ln_small (z := 1) (by decide); omega)) rfl) fun m3 j3 => ?_
  try simp only [Heap.next_push, Heap.next_set, Heap.next_kill, next_bump, next_E0] at j3
  simp (maxSteps := 1000000) (disch := first | exact sd | fail) only [go_sem, Nat.reduceAdd, Nat.reduceSub, Nat.reduceLeDiff, ↓reduceIte, decide_eq_true_eq, if_true, if_false, Bool.false_eq_true, Int.lt_irrefl, implies_true, true_and, and_true, eq_self, and_self, beq_self_eq_true, aw_plan (id := 2) plM5_130_2, plM5_130_2, l2, l1, n0, n1, n2, d0, d1, d2]
  refine PC.step (p77 (x := -1) (by omega)) fun m4 j4 => ?_
  try simp only [Heap.next_push, Heap.next_set, Heap.next_kill, next_bump, next_E0] at j4
  simp (maxSteps := 1000000) (disch := first | exact sd | fail) only [go_sem, Nat.reduceAdd, Nat.reduceSub, Nat.reduceLeDiff, ↓reduceIte, decide_eq_true_eq, if_true, if_false, Bool.false_eq_true, Int.lt_irrefl, implies_true, true_and, and_true, eq_self, and_self, beq_self_eq_true, aw_plan (id := 2) plM5_130_2, plM5_130_2, l2, l1, n0, n1, n2, d0, d1, d2]
  have q5 : PC Try.prog 58 [Qn ((-1 : Int) : Rat), Qn ((-1 : Int) : Rat)] (.bool true) := p75t (Nat.le_trans (lq_int _) (by have := ln_small (z := -1) (by decide); omega)) rfl
  refine PC.step (q5) fun m5 j5 => ?_
  try simp only [Heap.next_push, Heap.next_set, Heap.next_kill, next_bump, next_E0] at j5
  simp (maxSteps := 1000000) (disch := first | exact sd | fail) only [go_sem, Nat.reduceAdd, Nat.reduceSub, Nat.reduceLeDiff, ↓reduceIte, decide_eq_true_eq, if_true, if_false, Bool.false_eq_true, Int.lt_irrefl, implies_true, true_and, and_true, eq_self, and_self, beq_self_eq_true, aw_plan (id := 2) plM5_130_2, plM5_130_2]
  exact .rfl
end Go.Abs
