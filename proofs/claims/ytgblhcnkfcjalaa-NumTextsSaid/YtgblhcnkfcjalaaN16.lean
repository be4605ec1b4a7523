/- Sums, differences, opposites, which is greater. -/
import Derived.Test.YtgblhcnkfcjalaaN14
set_option linter.unusedVariables false
set_option linter.unusedSimpArgs false
namespace Go.Abs
open Go Go.Proofs
set_option maxRecDepth 100000
set_option maxHeartbeats 4000000
set_option linter.unusedSimpArgs false

def pl55_6 : Plan := ⟨[0, 2], [(1, [2], []), (3, [], []), (4, [], [5])]⟩
def pl55_7 : Plan := ⟨[0, 2], [(1, [2], []), (3, [], []), (4, [], [5])]⟩
def pl60_1 : Plan := ⟨[0, 2], [(1, [2], []), (3, [], [4, 5])]⟩
def pl60_2 : Plan := ⟨[0, 2], [(1, [2], []), (3, [], [4, 5])]⟩
def pl61_1 : Plan := ⟨[0, 1], [(2, [0], []), (3, [], []), (4, [], [])]⟩
def pl66_1 : Plan := ⟨[0, 3], [(1, [3], [2]), (4, [], []), (5, [], []), (6, [], [])]⟩
theorem IN.setbox {H : Heap} {v : Value} {z : Int} (h : IN H v z) {b : Nat} {cs : List Value} (hg : H.get b = some (.row true 24 cs)) (o : AObj) : IN (H.set b o) v z := IA.setbox h hg o
theorem IN.form {H : Heap} {v : Value} {z : Int} (h : IN H v z) : ∃ sl, v = .agg ⟨[.bool (decide (z < 0)), sl]⟩ ∧ isSl sl = true ∧ U Try.prog H sl (limbs z.natAbs) := by
  obtain ⟨sl, h1, h2, h3⟩ := h
  exact ⟨sl, h1, h2.isSl, h2⟩
theorem IZ.form {H : Heap} {v : Value} {z : Int} {K : Nat} (h : IZ H v z K) : ∃ ng sl, v = .agg ⟨[.bool ng, sl]⟩ ∧ isSl sl = true := by
  obtain ⟨ng, l, ⟨sl, h1, h2, h3⟩, _, _⟩ := h
  exact ⟨ng, sl, h1, h2.isSl⟩
theorem z143 {H : Heap} {sa sb : Value} {y z : Int} (hu : U Try.prog H sa (limbs y.natAbs)) (hv : U Try.prog H sb (limbs z.natAbs)) (h1 : ln y < 2 ^ 62) (h2 : ln z < 2 ^ 62) : ACalls Try.prog 45 [sa, sb] H fun r H' => r = .int .i64 (sg ((y.natAbs : Int) - z.natAbs)) ∧ H' = H := by
  refine (c143 hu hv (lim_limbs _) (lim_limbs _) (top_limbs _) (top_limbs _) h1 h2).mono ?_
  rw [val_limbs, val_limbs]
  exact fun _ _ h => h

theorem z66 {H : Heap} {v : Value} {z : Int} {K : Nat} (h : IZ H v z K) (hK : K ≤ 2 ^ 40) : ACalls Try.prog 41 [v] H fun r H' => IN H' r (-z) ∧ Hle H H' := by
  have hk := h.ln
  unfold ln at hk
  obtain ⟨ng, sl, rfl, hy0⟩ := h.form
  refine ACalls.of_code T.hm (n := 8) Try.func41 rfl rfl rfl rfl ?_; simp only [List.replicate_succ, List.replicate_zero, List.cons_append, List.nil_append]
  simp (maxSteps := 1000000) (disch := first | exact sd | fail) only [go_sem, Nat.reduceAdd, Nat.reduceSub, Nat.reduceLeDiff, ↓reduceIte, decide_eq_true_eq, if_true, if_false, Bool.false_eq_true, Int.lt_irrefl, implies_true, true_and, and_true, eq_self, and_self, beq_self_eq_true, aw_plan (id := 1) pl66_1, pl66_1, aw_plan (id := 1) ⟨[0, 3], [(1, [3], [2]), (4, [], []), (5, [], []), (6, [], [])]⟩]
  refine (z145 (h.mono Hle.auto) (by omega)).mono ?_
  rintro _ H1 ⟨rfl, h1⟩
  have n1 := h1.next
  try simp only [next_push, next_set, next_kill, wr_next] at n1
  have q1 : Hle H H1 := Hle.trans Hle.auto h1
  simp (maxSteps := 1000000) (disch := first | exact sd | fail) only [go_sem, Nat.reduceAdd, Nat.reduceSub, Nat.reduceLeDiff, ↓reduceIte, decide_eq_true_eq, if_true, if_false, Bool.false_eq_true, Int.lt_irrefl, implies_true, true_and, and_true, eq_self, and_self, beq_self_eq_true, aw_plan (id := 1) pl66_1, pl66_1, h1.get]
  refine (z142 (h.mono Hle.auto) (by omega)).mono ?_
  rintro x H2 ⟨hx, h2⟩
  have n2 := h2.next
  try simp only [next_push, next_set, next_kill, wr_next] at n2
  have q2 : Hle H H2 := Hle.trans Hle.auto h2
  simp (maxSteps := 1000000) (disch := first | exact sd | fail) only [go_sem, Nat.reduceAdd, Nat.reduceSub, Nat.reduceLeDiff, ↓reduceIte, decide_eq_true_eq, if_true, if_false, Bool.false_eq_true, Int.lt_irrefl, implies_true, true_and, and_true, eq_self, and_self, beq_self_eq_true, aw_plan (id := 1) pl66_1, pl66_1, h1.get, h2.get]
  refine (z144 hx (lim_limbs _) (by omega)).mono ?_
  rintro r H3 ⟨hr, h3⟩
  have n3 := h3.next
  try simp only [next_push, next_set, next_kill, wr_next] at n3
  have q3 : Hle H H3 := Hle.trans Hle.auto h3
  obtain ⟨sr, rfl, hy3, _⟩ := hr.form
  have hg3 : H3.get (H.next + 1) = some (.row true 24 [.bool false, .slice none 0 0]) := by simp (maxSteps := 1000000) (disch := first | exact sd | fail) only [go_sem, Nat.reduceAdd, Nat.reduceSub, Nat.reduceLeDiff, ↓reduceIte, decide_eq_true_eq, if_true, if_false, Bool.false_eq_true, Int.lt_irrefl, implies_true, true_and, and_true, eq_self, and_self, beq_self_eq_true, aw_plan (id := 1) pl66_1, pl66_1, h1.get, h2.get, h3.get]
  simp (maxSteps := 1000000) (disch := first | exact sd | fail) only [go_sem, Nat.reduceAdd, Nat.reduceSub, Nat.reduceLeDiff, ↓reduceIte, decide_eq_true_eq, if_true, if_false, Bool.false_eq_true, Int.lt_irrefl, implies_true, true_and, and_true, eq_self, and_self, beq_self_eq_true, aw_plan (id := 1) pl66_1, pl66_1, hg3]
  refine ⟨?_, Hle.auto⟩
  have e : (if (!decide (z < 0)) = true then -(val (limbs z.natAbs)) else val (limbs z.natAbs)) = -z := by
    rw [val_limbs]
    by_cases h0 : z < 0
    · simp [h0]; omega
    · simp [h0]; omega
  rw [e] at hr
  rw [e]
  exact hr.setbox hg3 _

theorem z60 {H : Heap} {v w : Value} {y z : Int} {K L : Nat} (h : IZ H v y K) (h' : IZ H w z L) (hK : K ≤ 2 ^ 40) (hL : L ≤ 2 ^ 40) : ACalls Try.prog 35 [v, w] H fun r H' => IN H' r (y + z) ∧ Hle H H' := by
  have hk := h.ln
  have hk' := h'.ln
  have hk2 := hk
  have hk2' := hk'
  unfold ln at hk2 hk2'
  obtain ⟨ng, sl, rfl, hy0⟩ := h.form
  obtain ⟨mg, sm, rfl, hy0'⟩ := h'.form
  have vX := val_limbs y.natAbs
  have vY := val_limbs z.natAbs
  refine ACalls.of_code T.hm (n := 38) Try.func35 rfl rfl rfl rfl ?_; simp only [List.replicate_succ, List.replicate_zero, List.cons_append, List.nil_append]
  simp (maxSteps := 1000000) (disch := first | exact sd | fail) only [go_sem, Nat.reduceAdd, Nat.reduceSub, Nat.reduceLeDiff, ↓reduceIte, decide_eq_true_eq, if_true, if_false, Bool.false_eq_true, Int.lt_irrefl, implies_true, true_and, and_true, eq_self, and_self, beq_self_eq_true, aw_plan (id := 1) pl60_1, pl60_1, aw_plan (id := 2) pl60_2, pl60_2, aw_plan (id := 1) ⟨[0, 2], [(1, [2], []), (3, [], [4, 5])]⟩]
  refine (z142 (h.mono Hle.auto) (by omega)).mono ?_
  rintro x1 H1 ⟨hx, h1⟩
  have n1 := h1.next
  try simp only [next_push, next_set, next_kill, wr_next] at n1
  have q1 : Hle H H1 := Hle.trans Hle.auto h1
  simp (maxSteps := 1000000) (disch := first | exact sd | fail) only [go_sem, Nat.reduceAdd, Nat.reduceSub, Nat.reduceLeDiff, ↓reduceIte, decide_eq_true_eq, if_true, if_false, Bool.false_eq_true, Int.lt_irrefl, implies_true, true_and, and_true, eq_self, and_self, beq_self_eq_true, aw_plan (id := 1) pl60_1, pl60_1, aw_plan (id := 2) pl60_2, pl60_2, h1.get]
  refine (z142 (h'.mono Hle.auto) (by omega)).mono ?_
  rintro x2 H2 ⟨hy, h2⟩
  have n2 := h2.next
  try simp only [next_push, next_set, next_kill, wr_next] at n2
  have q2 : Hle H H2 := Hle.trans Hle.auto h2
  simp (maxSteps := 1000000) (disch := first | exact sd | fail) only [go_sem, Nat.reduceAdd, Nat.reduceSub, Nat.reduceLeDiff, ↓reduceIte, decide_eq_true_eq, if_true, if_false, Bool.false_eq_true, Int.lt_irrefl, implies_true, true_and, and_true, eq_self, and_self, beq_self_eq_true, aw_plan (id := 1) pl60_1, pl60_1, aw_plan (id := 2) pl60_2, pl60_2, h1.get, h2.get, aw_plan (id := 2) ⟨[0, 2], [(1, [2], []), (3, [], [4, 5])]⟩]
  refine (z145 (h.mono Hle.auto) (by omega)).mono ?_
  rintro _ H3 ⟨rfl, h3⟩
  have n3 := h3.next
  try simp only [next_push, next_set, next_kill, wr_next] at n3
  have q3 : Hle H H3 := Hle.trans Hle.auto h3
  simp (maxSteps := 1000000) (disch := first | exact sd | fail) only [go_sem, Nat.reduceAdd, Nat.reduceSub, Nat.reduceLeDiff, ↓reduceIte, decide_eq_true_eq, if_true, if_false, Bool.false_eq_true, Int.lt_irrefl, implies_true, true_and, and_true, eq_self, and_self, beq_self_eq_true, aw_plan (id := 1) pl60_1, pl60_1, aw_plan (id := 2) pl60_2, pl60_2, h1.get, h2.get, h3.get]
  refine (z145 (h'.mono Hle.auto) (by omega)).mono ?_
  rintro _ H4 ⟨rfl, h4⟩
  have n4 := h4.next
  try simp only [next_push, next_set, next_kill, wr_next] at n4
  have q4 : Hle H H4 := Hle.trans Hle.auto h4
  by_cases hs : decide (y < 0) = decide (z < 0)
  · simp (maxSteps := 1000000) (disch := first | exact sd | fail) only [go_sem, Nat.reduceAdd, Nat.reduceSub, Nat.reduceLeDiff, ↓reduceIte, decide_eq_true_eq, if_true, if_false, Bool.false_eq_true, Int.lt_irrefl, implies_true, true_and, and_true, eq_self, and_self, beq_self_eq_true, aw_plan (id := 1) pl60_1, pl60_1, aw_plan (id := 2) pl60_2, pl60_2, h1.get, h2.get, h3.get, h4.get, hs]
    refine (z145 (h.mono Hle.auto) (by omega)).mono ?_
    rintro _ H5 ⟨rfl, h5⟩
    have n5 := h5.next
    try simp only [next_push, next_set, next_kill, wr_next] at n5
    have q5 : Hle H H5 := Hle.trans Hle.auto h5
    simp (maxSteps := 1000000) (disch := first | exact sd | fail) only [go_sem, Nat.reduceAdd, Nat.reduceSub, Nat.reduceLeDiff, ↓reduceIte, decide_eq_true_eq, if_true, if_false, Bool.false_eq_true, Int.lt_irrefl, implies_true, true_and, and_true, eq_self, and_self, beq_self_eq_true, aw_plan (id := 1) pl60_1, pl60_1, aw_plan (id := 2) pl60_2, pl60_2, h1.get, h2.get, h3.get, h4.get, h5.get]
    refine (c156 (hx.mono Hle.auto) (hy.mono Hle.auto) (lim_limbs _) (lim_limbs _) (by omega) (by omega)).mono ?_
    rintro s6 H6 ⟨l6, hu6, hl6, hv6, hn6, h6⟩
    have n6 := h6.next
    try simp only [next_push, next_set, next_kill, wr_next] at n6
    have q6 : Hle H H6 := Hle.trans Hle.auto h6
    simp (maxSteps := 1000000) (disch := first | exact sd | fail) only [go_sem, Nat.reduceAdd, Nat.reduceSub, Nat.reduceLeDiff, ↓reduceIte, decide_eq_true_eq, if_true, if_false, Bool.false_eq_true, Int.lt_irrefl, implies_true, true_and, and_true, eq_self, and_self, beq_self_eq_true, aw_plan (id := 1) pl60_1, pl60_1, aw_plan (id := 2) pl60_2, pl60_2, h1.get, h2.get, h3.get, h4.get, h5.get, h6.get]
    have e : (if decide (y < 0) = true then -(val l6) else val l6) = y + z := by
      rw [hv6, vX, vY]
      by_cases h0 : y < 0
      · have : z < 0 := by simpa [h0] using hs
        simp [h0]; omega
      · have : ¬ z < 0 := by simpa [h0] using hs
        simp [h0]; omega
    refine (z144 hu6 hl6 (by omega)).mono ?_
    rintro r H7 ⟨hr, h7⟩
    have n7 := h7.next
    try simp only [next_push, next_set, next_kill, wr_next] at n7
    have q7 : Hle H H7 := Hle.trans Hle.auto h7
    rw [e] at hr
    obtain ⟨sr, rfl, hy7, _⟩ := hr.form
    have hg7 : H7.get (H.next + 1 + 1) = some (.row true 24 [.bool false, .slice none 0 0]) := by simp (maxSteps := 1000000) (disch := first | exact sd | fail) only [go_sem, Nat.reduceAdd, Nat.reduceSub, Nat.reduceLeDiff, ↓reduceIte, decide_eq_true_eq, if_true, if_false, Bool.false_eq_true, Int.lt_irrefl, implies_true, true_and, and_true, eq_self, and_self, beq_self_eq_true, aw_plan (id := 1) pl60_1, pl60_1, aw_plan (id := 2) pl60_2, pl60_2, h1.get, h2.get, h3.get, h4.get, h5.get, h6.get, h7.get]
    simp (maxSteps := 1000000) (disch := first | exact sd | fail) only [go_sem, Nat.reduceAdd, Nat.reduceSub, Nat.reduceLeDiff, ↓reduceIte, decide_eq_true_eq, if_true, if_false, Bool.false_eq_true, Int.lt_irrefl, implies_true, true_and, and_true, eq_self, and_self, beq_self_eq_true, aw_plan (id := 1) pl60_1, pl60_1, aw_plan (id := 2) pl60_2, pl60_2, hg7]
    exact ⟨hr.setbox hg7 _, Hle.auto⟩
  · have hs2 : (decide (y < 0) == decide (z < 0)) = false := by simpa using hs
    simp (maxSteps := 1000000) (disch := first | exact sd | fail) only [go_sem, Nat.reduceAdd, Nat.reduceSub, Nat.reduceLeDiff, ↓reduceIte, decide_eq_true_eq, if_true, if_false, Bool.false_eq_true, Int.lt_irrefl, implies_true, true_and, and_true, eq_self, and_self, beq_self_eq_true, aw_plan (id := 1) pl60_1, pl60_1, aw_plan (id := 2) pl60_2, pl60_2, h1.get, h2.get, h3.get, h4.get, hs2]
    refine (z143 (hx.mono Hle.auto) (hy.mono Hle.auto) (by omega) (by omega)).mono ?_
    rintro _ _ ⟨rfl, rfl⟩
    by_cases h5 : (0 : Int) ≤ sg ((y.natAbs : Int) - z.natAbs)
    · have h5' : (z.natAbs : Int) ≤ y.natAbs := by unfold sg at h5; split at h5 <;> omega
      simp (maxSteps := 1000000) (disch := first | exact sd | fail) only [go_sem, Nat.reduceAdd, Nat.reduceSub, Nat.reduceLeDiff, ↓reduceIte, decide_eq_true_eq, if_true, if_false, Bool.false_eq_true, Int.lt_irrefl, implies_true, true_and, and_true, eq_self, and_self, beq_self_eq_true, aw_plan (id := 1) pl60_1, pl60_1, aw_plan (id := 2) pl60_2, pl60_2, h1.get, h2.get, h3.get, h4.get, h5]
      refine (z145 (h.mono Hle.auto) (by omega)).mono ?_
      rintro _ H5 ⟨rfl, h5⟩
      have n5 := h5.next
      try simp only [next_push, next_set, next_kill, wr_next] at n5
      have q5 : Hle H H5 := Hle.trans Hle.auto h5
      simp (maxSteps := 1000000) (disch := first | exact sd | fail) only [go_sem, Nat.reduceAdd, Nat.reduceSub, Nat.reduceLeDiff, ↓reduceIte, decide_eq_true_eq, if_true, if_false, Bool.false_eq_true, Int.lt_irrefl, implies_true, true_and, and_true, eq_self, and_self, beq_self_eq_true, aw_plan (id := 1) pl60_1, pl60_1, aw_plan (id := 2) pl60_2, pl60_2, h1.get, h2.get, h3.get, h4.get, h5.get]
      refine (c157 (hx.mono Hle.auto) (hy.mono Hle.auto) (lim_limbs _) (lim_limbs _) (by omega) (by exact ln_mono (a := z) (b := y) (by omega)) (by omega)).mono ?_
      rintro s6 H6 ⟨l6, hu6, hl6, hv6, hn6, h6⟩
      have n6 := h6.next
      try simp only [next_push, next_set, next_kill, wr_next] at n6
      have q6 : Hle H H6 := Hle.trans Hle.auto h6
      simp (maxSteps := 1000000) (disch := first | exact sd | fail) only [go_sem, Nat.reduceAdd, Nat.reduceSub, Nat.reduceLeDiff, ↓reduceIte, decide_eq_true_eq, if_true, if_false, Bool.false_eq_true, Int.lt_irrefl, implies_true, true_and, and_true, eq_self, and_self, beq_self_eq_true, aw_plan (id := 1) pl60_1, pl60_1, aw_plan (id := 2) pl60_2, pl60_2, h1.get, h2.get, h3.get, h4.get, h5.get, h6.get]
      have e : (if decide (y < 0) = true then -(val l6) else val l6) = y + z := by
        rw [hv6, vX, vY]
        by_cases h0 : y < 0
        · have : ¬ z < 0 := by simpa [h0] using hs
          simp [h0]; omega
        · have : z < 0 := by simpa [h0] using hs
          simp [h0]; omega
      refine (z144 hu6 hl6 (by omega)).mono ?_
      rintro r H7 ⟨hr, h7⟩
      have n7 := h7.next
      try simp only [next_push, next_set, next_kill, wr_next] at n7
      have q7 : Hle H H7 := Hle.trans Hle.auto h7
      rw [e] at hr
      obtain ⟨sr, rfl, hy7, _⟩ := hr.form
      have hg7 : H7.get (H.next + 1 + 1) = some (.row true 24 [.bool false, .slice none 0 0]) := by simp (maxSteps := 1000000) (disch := first | exact sd | fail) only [go_sem, Nat.reduceAdd, Nat.reduceSub, Nat.reduceLeDiff, ↓reduceIte, decide_eq_true_eq, if_true, if_false, Bool.false_eq_true, Int.lt_irrefl, implies_true, true_and, and_true, eq_self, and_self, beq_self_eq_true, aw_plan (id := 1) pl60_1, pl60_1, aw_plan (id := 2) pl60_2, pl60_2, h1.get, h2.get, h3.get, h4.get, h5.get, h6.get, h7.get]
      simp (maxSteps := 1000000) (disch := first | exact sd | fail) only [go_sem, Nat.reduceAdd, Nat.reduceSub, Nat.reduceLeDiff, ↓reduceIte, decide_eq_true_eq, if_true, if_false, Bool.false_eq_true, Int.lt_irrefl, implies_true, true_and, and_true, eq_self, and_self, beq_self_eq_true, aw_plan (id := 1) pl60_1, pl60_1, aw_plan (id := 2) pl60_2, pl60_2, hg7]
      exact ⟨hr.setbox hg7 _, Hle.auto⟩
    · have h5' : (y.natAbs : Int) < z.natAbs := by unfold sg at h5; split at h5; omega; split at h5 <;> omega
      simp (maxSteps := 1000000) (disch := first | exact sd | fail) only [go_sem, Nat.reduceAdd, Nat.reduceSub, Nat.reduceLeDiff, ↓reduceIte, decide_eq_true_eq, if_true, if_false, Bool.false_eq_true, Int.lt_irrefl, implies_true, true_and, and_true, eq_self, and_self, beq_self_eq_true, aw_plan (id := 1) pl60_1, pl60_1, aw_plan (id := 2) pl60_2, pl60_2, h1.get, h2.get, h3.get, h4.get, h5]
      refine (z145 (h'.mono Hle.auto) (by omega)).mono ?_
      rintro _ H5 ⟨rfl, h5⟩
      have n5 := h5.next
      try simp only [next_push, next_set, next_kill, wr_next] at n5
      have q5 : Hle H H5 := Hle.trans Hle.auto h5
      simp (maxSteps := 1000000) (disch := first | exact sd | fail) only [go_sem, Nat.reduceAdd, Nat.reduceSub, Nat.reduceLeDiff, ↓reduceIte, decide_eq_true_eq, if_true, if_false, Bool.false_eq_true, Int.lt_irrefl, implies_true, true_and, and_true, eq_self, and_self, beq_self_eq_true, aw_plan (id := 1) pl60_1, pl60_1, aw_plan (id := 2) pl60_2, pl60_2, h1.get, h2.get, h3.get, h4.get, h5.get]
      refine (c157 (hy.mono Hle.auto) (hx.mono Hle.auto) (lim_limbs _) (lim_limbs _) (by omega) (by exact ln_mono (a := y) (b := z) (by omega)) (by omega)).mono ?_
      rintro s6 H6 ⟨l6, hu6, hl6, hv6, hn6, h6⟩
      have n6 := h6.next
      try simp only [next_push, next_set, next_kill, wr_next] at n6
      have q6 : Hle H H6 := Hle.trans Hle.auto h6
      simp (maxSteps := 1000000) (disch := first | exact sd | fail) only [go_sem, Nat.reduceAdd, Nat.reduceSub, Nat.reduceLeDiff, ↓reduceIte, decide_eq_true_eq, if_true, if_false, Bool.false_eq_true, Int.lt_irrefl, implies_true, true_and, and_true, eq_self, and_self, beq_self_eq_true, aw_plan (id := 1) pl60_1, pl60_1, aw_plan (id := 2) pl60_2, pl60_2, h1.get, h2.get, h3.get, h4.get, h5.get, h6.get]
      have e : (if decide (z < 0) = true then -(val l6) else val l6) = y + z := by
        rw [hv6, vX, vY]
        by_cases h0 : z < 0
        · have : ¬ y < 0 := by intro h1; exact hs (by simp [h0, h1])
          simp [h0]; omega
        · have : y < 0 := by
            refine Classical.byContradiction fun h1 => hs (by simp [h0, h1])
          simp [h0]; omega
      refine (z144 hu6 hl6 (by omega)).mono ?_
      rintro r H7 ⟨hr, h7⟩
      have n7 := h7.next
      try simp only [next_push, next_set, next_kill, wr_next] at n7
      have q7 : Hle H H7 := Hle.trans Hle.auto h7
      rw [e] at hr
      obtain ⟨sr, rfl, hy7, _⟩ := hr.form
      have hg7 : H7.get (H.next + 1 + 1) = some (.row true 24 [.bool false, .slice none 0 0]) := by simp (maxSteps := 1000000) (disch := first | exact sd | fail) only [go_sem, Nat.reduceAdd, Nat.reduceSub, Nat.reduceLeDiff, ↓reduceIte, decide_eq_true_eq, if_true, if_false, Bool.false_eq_true, Int.lt_irrefl, implies_true, true_and, and_true, eq_self, and_self, beq_self_eq_true, aw_plan (id := 1) pl60_1, pl60_1, aw_plan (id := 2) pl60_2, pl60_2, h1.get, h2.get, h3.get, h4.get, h5.get, h6.get, h7.get]
      simp (maxSteps := 1000000) (disch := first | exact sd | fail) only [go_sem, Nat.reduceAdd, Nat.reduceSub, Nat.reduceLeDiff, ↓reduceIte, decide_eq_true_eq, if_true, if_false, Bool.false_eq_true, Int.lt_irrefl, implies_true, true_and, and_true, eq_self, and_self, beq_self_eq_true, aw_plan (id := 1) pl60_1, pl60_1, aw_plan (id := 2) pl60_2, pl60_2, hg7]
      exact ⟨hr.setbox hg7 _, Hle.auto⟩

theorem z61 {H : Heap} {v w : Value} {y z : Int} {K L : Nat} (h : IZ H v y K) (h' : IZ H w z L) (hK : K ≤ 2 ^ 40) (hL : L ≤ 2 ^ 40) : ACalls Try.prog 36 [v, w] H fun r H' => IN H' r (y - z) ∧ Hle H H' := by
  obtain ⟨ng, sl, rfl, hy0⟩ := h.form
  obtain ⟨mg, sm, rfl, hy0'⟩ := h'.form
  refine ACalls.of_code T.hm (n := 7) Try.func36 rfl rfl rfl rfl ?_; simp only [List.replicate_succ, List.replicate_zero, List.cons_append, List.nil_append]
  simp (maxSteps := 1000000) (disch := first | exact sd | fail) only [go_sem, Nat.reduceAdd, Nat.reduceSub, Nat.reduceLeDiff, ↓reduceIte, decide_eq_true_eq, if_true, if_false, Bool.false_eq_true, Int.lt_irrefl, implies_true, true_and, and_true, eq_self, and_self, beq_self_eq_true, aw_plan (id := 1) pl61_1, pl61_1, aw_plan (id := 1) ⟨[0, 1], [(2, [0], []), (3, [], []), (4, [], [])]⟩]
  refine (z66 (h'.mono Hle.auto) (by omega)).mono ?_
  rintro r1 H1 ⟨hr1, h1⟩
  have n1 := h1.next
  try simp only [next_push, next_set, next_kill, wr_next] at n1
  have q1 : Hle H H1 := Hle.trans Hle.auto h1
  simp (maxSteps := 1000000) (disch := first | exact sd | fail) only [go_sem, Nat.reduceAdd, Nat.reduceSub, Nat.reduceLeDiff, ↓reduceIte, decide_eq_true_eq, if_true, if_false, Bool.false_eq_true, Int.lt_irrefl, implies_true, true_and, and_true, eq_self, and_self, beq_self_eq_true, aw_plan (id := 1) pl61_1, pl61_1, h1.get]
  refine (z60 (h.mono Hle.auto) hr1.iz (by omega) (by rw [ln_neg]; have := h'.ln; omega)).mono ?_
  rintro r H2 ⟨hr, h2⟩
  have n2 := h2.next
  try simp only [next_push, next_set, next_kill, wr_next] at n2
  have q2 : Hle H H2 := Hle.trans Hle.auto h2
  obtain ⟨sr, rfl, hy7, _⟩ := hr.form
  have hg7 : H2.get (H.next + 1 + 1) = some (.row true 24 [.bool false, .slice none 0 0]) := by simp (maxSteps := 1000000) (disch := first | exact sd | fail) only [go_sem, Nat.reduceAdd, Nat.reduceSub, Nat.reduceLeDiff, ↓reduceIte, decide_eq_true_eq, if_true, if_false, Bool.false_eq_true, Int.lt_irrefl, implies_true, true_and, and_true, eq_self, and_self, beq_self_eq_true, aw_plan (id := 1) pl61_1, pl61_1, h1.get, h2.get]
  simp (maxSteps := 1000000) (disch := first | exact sd | fail) only [go_sem, Nat.reduceAdd, Nat.reduceSub, Nat.reduceLeDiff, ↓reduceIte, decide_eq_true_eq, if_true, if_false, Bool.false_eq_true, Int.lt_irrefl, implies_true, true_and, and_true, eq_self, and_self, beq_self_eq_true, aw_plan (id := 1) pl61_1, pl61_1, h1.get, h2.get, hg7]
  exact ⟨hr.setbox hg7 _, Hle.auto⟩

theorem z55 {H : Heap} {v w : Value} {y z : Int} {K L : Nat} (h : IZ H v y K) (h' : IZ H w z L) (hK : K ≤ 2 ^ 40) (hL : L ≤ 2 ^ 40) : ACalls Try.prog 30 [v, w] H fun r H' => r = .int .i64 (sg (y - z)) ∧ Hle H H' := by
  have hk := h.ln
  have hk' := h'.ln
  obtain ⟨ng, sl, rfl, hy0⟩ := h.form
  obtain ⟨mg, sm, rfl, hy0'⟩ := h'.form
  refine ACalls.of_code T.hm (n := 32) Try.func30 rfl rfl rfl rfl ?_; simp only [List.replicate_succ, List.replicate_zero, List.cons_append, List.nil_append]
  simp (maxSteps := 1000000) (disch := first | exact sd | fail) only [go_sem, Nat.reduceAdd, Nat.reduceSub, Nat.reduceLeDiff, ↓reduceIte, decide_eq_true_eq, if_true, if_false, Bool.false_eq_true, Int.lt_irrefl, implies_true, true_and, and_true, eq_self, and_self, beq_self_eq_true, aw_plan (id := 6) pl55_6, pl55_6, aw_plan (id := 7) pl55_7, pl55_7]
  refine (z145 (h.mono Hle.auto) (by omega)).mono ?_
  rintro _ H1 ⟨rfl, h1⟩
  have n1 := h1.next
  try simp only [next_push, next_set, next_kill, wr_next] at n1
  have q1 : Hle H H1 := Hle.trans Hle.auto h1
  by_cases b0 : y < 0
  · simp (maxSteps := 1000000) (disch := first | exact sd | fail) only [go_sem, Nat.reduceAdd, Nat.reduceSub, Nat.reduceLeDiff, ↓reduceIte, decide_eq_true_eq, if_true, if_false, Bool.false_eq_true, Int.lt_irrefl, implies_true, true_and, and_true, eq_self, and_self, beq_self_eq_true, aw_plan (id := 6) pl55_6, pl55_6, aw_plan (id := 7) pl55_7, pl55_7, h1.get, b0]
    refine (z145 (h'.mono Hle.auto) (by omega)).mono ?_
    rintro _ H2 ⟨rfl, h2⟩
    have n2 := h2.next
    try simp only [next_push, next_set, next_kill, wr_next] at n2
    have q2 : Hle H H2 := Hle.trans Hle.auto h2
    by_cases b1 : z < 0
    · simp (maxSteps := 1000000) (disch := first | exact sd | fail) only [go_sem, Nat.reduceAdd, Nat.reduceSub, Nat.reduceLeDiff, ↓reduceIte, decide_eq_true_eq, if_true, if_false, Bool.false_eq_true, Int.lt_irrefl, implies_true, true_and, and_true, eq_self, and_self, beq_self_eq_true, aw_plan (id := 6) pl55_6, pl55_6, aw_plan (id := 7) pl55_7, pl55_7, h1.get, h2.get, b0, b1]
      refine (z145 (h.mono Hle.auto) (by omega)).mono ?_
      rintro _ H3 ⟨rfl, h3⟩
      have n3 := h3.next
      try simp only [next_push, next_set, next_kill, wr_next] at n3
      have q3 : Hle H H3 := Hle.trans Hle.auto h3
      simp (maxSteps := 1000000) (disch := first | exact sd | fail) only [go_sem, Nat.reduceAdd, Nat.reduceSub, Nat.reduceLeDiff, ↓reduceIte, decide_eq_true_eq, if_true, if_false, Bool.false_eq_true, Int.lt_irrefl, implies_true, true_and, and_true, eq_self, and_self, beq_self_eq_true, aw_plan (id := 6) pl55_6, pl55_6, aw_plan (id := 7) pl55_7, pl55_7, h1.get, h2.get, h3.get, b0, b1]
      refine (z145 (h.mono Hle.auto) (by omega)).mono ?_
      rintro _ H4 ⟨rfl, h4⟩
      have n4 := h4.next
      try simp only [next_push, next_set, next_kill, wr_next] at n4
      have q4 : Hle H H4 := Hle.trans Hle.auto h4
      simp (maxSteps := 1000000) (disch := first | exact sd | fail) only [go_sem, Nat.reduceAdd, Nat.reduceSub, Nat.reduceLeDiff, ↓reduceIte, decide_eq_true_eq, if_true, if_false, Bool.false_eq_true, Int.lt_irrefl, implies_true, true_and, and_true, eq_self, and_self, beq_self_eq_true, aw_plan (id := 6) pl55_6, pl55_6, aw_plan (id := 7) pl55_7, pl55_7, h1.get, h2.get, h3.get, h4.get, b0, b1, aw_plan (id := 6) ⟨[0, 2], [(1, [2], []), (3, [], []), (4, [], [5])]⟩]
      refine (z142 (h'.mono Hle.auto) (by omega)).mono ?_
      rintro s5 H5 ⟨hs5, h5⟩
      have n5 := h5.next
      try simp only [next_push, next_set, next_kill, wr_next] at n5
      have q5 : Hle H H5 := Hle.trans Hle.auto h5
      simp (maxSteps := 1000000) (disch := first | exact sd | fail) only [go_sem, Nat.reduceAdd, Nat.reduceSub, Nat.reduceLeDiff, ↓reduceIte, decide_eq_true_eq, if_true, if_false, Bool.false_eq_true, Int.lt_irrefl, implies_true, true_and, and_true, eq_self, and_self, beq_self_eq_true, aw_plan (id := 6) pl55_6, pl55_6, aw_plan (id := 7) pl55_7, pl55_7, h1.get, h2.get, h3.get, h4.get, h5.get]
      refine (z142 (h.mono Hle.auto) (by omega)).mono ?_
      rintro s6 H6 ⟨hs6, h6⟩
      have n6 := h6.next
      try simp only [next_push, next_set, next_kill, wr_next] at n6
      have q6 : Hle H H6 := Hle.trans Hle.auto h6
      simp (maxSteps := 1000000) (disch := first | exact sd | fail) only [go_sem, Nat.reduceAdd, Nat.reduceSub, Nat.reduceLeDiff, ↓reduceIte, decide_eq_true_eq, if_true, if_false, Bool.false_eq_true, Int.lt_irrefl, implies_true, true_and, and_true, eq_self, and_self, beq_self_eq_true, aw_plan (id := 6) pl55_6, pl55_6, aw_plan (id := 7) pl55_7, pl55_7, h1.get, h2.get, h3.get, h4.get, h5.get, h6.get]
      refine (z143 (hs5.mono Hle.auto) (hs6.mono Hle.auto) (by omega) (by omega)).mono ?_
      rintro _ _ ⟨rfl, rfl⟩
      simp (maxSteps := 1000000) (disch := first | exact sd | fail) only [go_sem, Nat.reduceAdd, Nat.reduceSub, Nat.reduceLeDiff, ↓reduceIte, decide_eq_true_eq, if_true, if_false, Bool.false_eq_true, Int.lt_irrefl, implies_true, true_and, and_true, eq_self, and_self, beq_self_eq_true, aw_plan (id := 6) pl55_6, pl55_6, aw_plan (id := 7) pl55_7, pl55_7]
      exact ⟨by congr 1; unfold sg; repeat' split <;> omega, Hle.auto⟩
    · simp (maxSteps := 1000000) (disch := first | exact sd | fail) only [go_sem, Nat.reduceAdd, Nat.reduceSub, Nat.reduceLeDiff, ↓reduceIte, decide_eq_true_eq, if_true, if_false, Bool.false_eq_true, Int.lt_irrefl, implies_true, true_and, and_true, eq_self, and_self, beq_self_eq_true, aw_plan (id := 6) pl55_6, pl55_6, aw_plan (id := 7) pl55_7, pl55_7, h1.get, h2.get, b0, b1]
      exact ⟨by congr 1; unfold sg; repeat' split <;> omega, Hle.auto⟩
  · simp (maxSteps := 1000000) (disch := first | exact sd | fail) only [go_sem, Nat.reduceAdd, Nat.reduceSub, Nat.reduceLeDiff, ↓reduceIte, decide_eq_true_eq, if_true, if_false, Bool.false_eq_true, Int.lt_irrefl, implies_true, true_and, and_true, eq_self, and_self, beq_self_eq_true, aw_plan (id := 6) pl55_6, pl55_6, aw_plan (id := 7) pl55_7, pl55_7, h1.get, b0]
    refine (z145 (h.mono Hle.auto) (by omega)).mono ?_
    rintro _ H2 ⟨rfl, h2⟩
    have n2 := h2.next
    try simp only [next_push, next_set, next_kill, wr_next] at n2
    have q2 : Hle H H2 := Hle.trans Hle.auto h2
    simp (maxSteps := 1000000) (disch := first | exact sd | fail) only [go_sem, Nat.reduceAdd, Nat.reduceSub, Nat.reduceLeDiff, ↓reduceIte, decide_eq_true_eq, if_true, if_false, Bool.false_eq_true, Int.lt_irrefl, implies_true, true_and, and_true, eq_self, and_self, beq_self_eq_true, aw_plan (id := 6) pl55_6, pl55_6, aw_plan (id := 7) pl55_7, pl55_7, h1.get, h2.get, b0]
    refine (z145 (h'.mono Hle.auto) (by omega)).mono ?_
    rintro _ H3 ⟨rfl, h3⟩
    have n3 := h3.next
    try simp only [next_push, next_set, next_kill, wr_next] at n3
    have q3 : Hle H H3 := Hle.trans Hle.auto h3
    by_cases b1 : z < 0
    · simp (maxSteps := 1000000) (disch := first | exact sd | fail) only [go_sem, Nat.reduceAdd, Nat.reduceSub, Nat.reduceLeDiff, ↓reduceIte, decide_eq_true_eq, if_true, if_false, Bool.false_eq_true, Int.lt_irrefl, implies_true, true_and, and_true, eq_self, and_self, beq_self_eq_true, aw_plan (id := 6) pl55_6, pl55_6, aw_plan (id := 7) pl55_7, pl55_7, h1.get, h2.get, h3.get, b0, b1]
      exact ⟨by congr 1; unfold sg; repeat' split <;> omega, Hle.auto⟩
    · simp (maxSteps := 1000000) (disch := first | exact sd | fail) only [go_sem, Nat.reduceAdd, Nat.reduceSub, Nat.reduceLeDiff, ↓reduceIte, decide_eq_true_eq, if_true, if_false, Bool.false_eq_true, Int.lt_irrefl, implies_true, true_and, and_true, eq_self, and_self, beq_self_eq_true, aw_plan (id := 6) pl55_6, pl55_6, aw_plan (id := 7) pl55_7, pl55_7, h1.get, h2.get, h3.get, b0, b1]
      refine (z145 (h.mono Hle.auto) (by omega)).mono ?_
      rintro _ H4 ⟨rfl, h4⟩
      have n4 := h4.next
      try simp only [next_push, next_set, next_kill, wr_next] at n4
      have q4 : Hle H H4 := Hle.trans Hle.auto h4
      simp (maxSteps := 1000000) (disch := first | exact sd | fail) only [go_sem, Nat.reduceAdd, Nat.reduceSub, Nat.reduceLeDiff, ↓reduceIte, decide_eq_true_eq, if_true, if_false, Bool.false_eq_true, Int.lt_irrefl, implies_true, true_and, and_true, eq_self, and_self, beq_self_eq_true, aw_plan (id := 6) pl55_6, pl55_6, aw_plan (id := 7) pl55_7, pl55_7, h1.get, h2.get, h3.get, h4.get, b0, b1, aw_plan (id := 7) ⟨[0, 2], [(1, [2], []), (3, [], []), (4, [], [5])]⟩]
      refine (z142 (h.mono Hle.auto) (by omega)).mono ?_
      rintro s5 H5 ⟨hs5, h5⟩
      have n5 := h5.next
      try simp only [next_push, next_set, next_kill, wr_next] at n5
      have q5 : Hle H H5 := Hle.trans Hle.auto h5
      simp (maxSteps := 1000000) (disch := first | exact sd | fail) only [go_sem, Nat.reduceAdd, Nat.reduceSub, Nat.reduceLeDiff, ↓reduceIte, decide_eq_true_eq, if_true, if_false, Bool.false_eq_true, Int.lt_irrefl, implies_true, true_and, and_true, eq_self, and_self, beq_self_eq_true, aw_plan (id := 6) pl55_6, pl55_6, aw_plan (id := 7) pl55_7, pl55_7, h1.get, h2.get, h3.get, h4.get, h5.get]
      refine (z142 (h'.mono Hle.auto) (by omega)).mono ?_
      rintro s6 H6 ⟨hs6, h6⟩
      have n6 := h6.next
      try simp only [next_push, next_set, next_kill, wr_next] at n6
      have q6 : Hle H H6 := Hle.trans Hle.auto h6
      simp (maxSteps := 1000000) (disch := first | exact sd | fail) only [go_sem, Nat.reduceAdd, Nat.reduceSub, Nat.reduceLeDiff, ↓reduceIte, decide_eq_true_eq, if_true, if_false, Bool.false_eq_true, Int.lt_irrefl, implies_true, true_and, and_true, eq_self, and_self, beq_self_eq_true, aw_plan (id := 6) pl55_6, pl55_6, aw_plan (id := 7) pl55_7, pl55_7, h1.get, h2.get, h3.get, h4.get, h5.get, h6.get]
      refine (z143 (hs5.mono Hle.auto) (hs6.mono Hle.auto) (by omega) (by omega)).mono ?_
      rintro _ _ ⟨rfl, rfl⟩
      simp (maxSteps := 1000000) (disch := first | exact sd | fail) only [go_sem, Nat.reduceAdd, Nat.reduceSub, Nat.reduceLeDiff, ↓reduceIte, decide_eq_true_eq, if_true, if_false, Bool.false_eq_true, Int.lt_irrefl, implies_true, true_and, and_true, eq_self, and_self, beq_self_eq_true, aw_plan (id := 6) pl55_6, pl55_6, aw_plan (id := 7) pl55_7, pl55_7]
      exact ⟨by congr 1; unfold sg; repeat' split <;> omega, Hle.auto⟩
end Go.Abs
